/-
Several plain texts in one.
-/
import Derived.Test.YtoaijganmfijmaaK0
import Derived.Test.YtoaijganmfijmaaK2
import Derived.Test.YtoaijganmfijmaaK1
import Derived.Test.YtoaijganmfijmaaD3
import Derived.WalkSmall
import Derived.Tactics
import Derived.Tactics2
import Derived.Defers
import Derived.Recover
import Derived.Laws.Pointers
import Derived.Lib.SlicesS
import Derived.IntWalk
import Derived.Deep.DeepMust
import Derived.StillTailTactics
import Derived.Deep.RegionHeld3
import Derived.Deep.QuietTactic
import Derived.BigQuiet
-- written by a program of this session's (a turned copy of the kit's printer); Lean checks it
namespace Go.Proofs.Ytoaijganmfijmaa.Pr
open Go.RowKit Go.Proofs.YtoaijganmfijmaaW.PrintWords Go.Proofs.YtoaijganmfijmaaW.PrintLast Go.Proofs.YtoaijganmfijmaaW.PrintMore
attribute [local go_sem] max2_int min2_int max_two min_two max_three min_three max_four min_four   -- for this text's walks alone
set_option linter.unusedVariables false
set_option linter.unusedSimpArgs false

def apply_Right.l0 : Nat → Int → Int → List (S41) → Int → Int → Option (Bool)
 | 0, _, _, _, _, _ => none
 | k + 1, x3, x4, x7, x8, x9 => if x9 < x8 then (if 0 ≤ x9 then (if x9 < (x7.length : Int) then ((hunk_Right.f k ((rd_T41 x7 x9).f0) ((rd_T41 x7 x9).f1) ((rd_T41 x7 x9).f2) ((rd_T41 x7 x9).f3) ((rd_T41 x7 x9).f4)).bind fun t108 => (if t108 = true then (if ((rd_T41 x7 x9).f0) < x3 then (some false) else (if ((rd_T41 x7 x9).f2) = (wrap64 (((rd_T41 x7 x9).f0) + x4)) then (apply_Right.l0 k (wrap64 (((rd_T41 x7 x9).f0) + ((rd_T41 x7 x9).f1))) (wrap64 ((wrap64 (x4 + ((rd_T41 x7 x9).f3))) - ((rd_T41 x7 x9).f1))) x7 x8 (wrap64 (x9 + 1))) else (some false))) else (some false))) else (none)) else (none)) else (some true)
def apply_Right.f (k : Nat) (l0 : List (S41)) : Option (Bool) := apply_Right.l0 k 0 0 l0 (l0.length : Int) 0
theorem apply_Right.mono_l : ∀ k, (∀ y0 y1 y2 y3 y4, LeO (apply_Right.l0 k y0 y1 y2 y3 y4) (apply_Right.l0 (k + 1) y0 y1 y2 y3 y4))
 | 0 => fun _ _ _ _ _ r h => by simp [apply_Right.l0] at h
 | k + 1 => by
  have ih0 := apply_Right.mono_l k
  ·intro y0 y1 y2 y3 y4
   unfold apply_Right.l0
   repeat' first
   | (with_reducible exact ih0 _ _ _ _ _)
   | (with_reducible exact hunk_Right.mono _ _ _ _ _ _)
   | (with_reducible exact LeO.refl _)
   | (with_reducible exact LeO.none _)
   | (with_reducible refine LeO.ite ?_ ?_)
   | (with_reducible refine LeO.bind ?_ (fun _ => ?_))
   | exact ih0 _ _ _ _ _
   | exact hunk_Right.mono _ _ _ _ _ _
   | exact LeO.none _
   | refine LeO.ite ?_ ?_
   | refine LeO.bind ?_ (fun _ => ?_)
theorem apply_Right.mono : ∀ a0 k, LeO (apply_Right.f k a0) (apply_Right.f (k + 1) a0) := by
 intro a0 k
 have ih0 := apply_Right.mono_l k
 unfold apply_Right.f
 repeat' first
   | (with_reducible exact ih0 _ _ _ _ _)
   | (with_reducible exact hunk_Right.mono _ _ _ _ _ _)
   | (with_reducible exact LeO.refl _)
   | (with_reducible exact LeO.none _)
   | (with_reducible refine LeO.ite ?_ ?_)
   | (with_reducible refine LeO.bind ?_ (fun _ => ?_))
   | exact ih0 _ _ _ _ _
   | exact hunk_Right.mono _ _ _ _ _ _
   | exact LeO.none _
   | refine LeO.ite ?_ ?_
   | refine LeO.bind ?_ (fun _ => ?_)
set_option maxHeartbeats 8000000 in
set_option maxRecDepth 100000 in
theorem apply_Right.calls (k : Nat) (A0 : Option Addr) (c0 : Nat) (l0 : List (S41)) (r : Bool) (w : World) (hr0 : Kd.C k41 w A0 l0.length l0) (hc0 : l0.length ≤ c0) (h : apply_Right.f k l0 = some r) :
  Calls Try.prog 15 #[.slice A0 l0.length c0] w fun e w' => e = .returned (.bool r) ∧ Below w.heap.size w w' := by
 have hu41 := Try.underlying41
 have HR0 := Aside0.mk hr0
 have HC0 := Aside0.mk hc0
 clear hr0 hc0
 have HB := Aside0.mk (Below.refl w.heap.size w)
 have H : (apply_Right.l0 k 0 0 l0 (l0.length : Int) 0) = some r := h
 clear h
 have H' := Aside0.mk H
 clear H
 go_enter Try.func15, Try.ntmps15
 go_wp2
 go_loopg [3, 4, 9] k (fun kq v3 v4 v9 w' => ∃ (x3_1 : Int) (x4_1 : Int) (x9_1 : Int), v3 = .int .i64 x3_1 ∧ v4 = .int .i64 x4_1 ∧ v9 = .int .i64 x9_1 ∧ Aside0 (apply_Right.l0 kq x3_1 x4_1 l0 (l0.length : Int) x9_1 = some r) ∧ Aside0 (kq ≤ k) ∧ Aside0 (Below w.heap.size w w'))
 case atStart => exact ⟨(0), (0), (0), (by first | rfl | (simp; done) | (simp [*]; done)), (by first | rfl | (simp; done) | (simp [*]; done)), (by first | rfl | (simp; done) | (simp [*]; done)), H', ⟨Nat.le_refl _⟩, ⟨by repeat (first | (with_reducible first | exact HB.out | apply below_alloc | apply pw_below_drewN | apply below_drew1) | exact HB.out)⟩⟩
 case round =>
  clear H'
  try clear c1
  obtain ⟨x3_1, x4_1, x9_1, rfl, rfl, rfl, HA, HK1, HB⟩ := hrel
  cases gk with
  | zero => exact absurd HA.out (by simp [apply_Right.l0])
  | succ k1 =>
   have H := HA.out
   clear HA
   simp only [apply_Right.l0] at H
   by_cases c2 : x9_1 < (l0.length : Int)
   ·rw [if_pos c2] at H
    have c2b0 : decide (x9_1 < (l0.length : Int)) = true := decide_eq_true c2
    clear c2
    by_cases c3 : 0 ≤ x9_1
    ·rw [if_pos c3] at H
     have c3b0 : decide (0 ≤ x9_1) = true := decide_eq_true c3
     clear c3
     by_cases c4 : x9_1 < (l0.length : Int)
     ·rw [if_pos c4] at H
      have c4b0 : decide (x9_1 < (l0.length : Int)) = true := decide_eq_true c4
      clear c4
      replace H := Option.bind_eq_some_iff.mp H
      obtain ⟨t108, A50, H⟩ := H
      replace H : (if t108 = true then (if ((rd_T41 l0 x9_1).f0) < x3_1 then (some false) else (if ((rd_T41 l0 x9_1).f2) = (wrap64 (((rd_T41 l0 x9_1).f0) + x4_1)) then (apply_Right.l0 k1 (wrap64 (((rd_T41 l0 x9_1).f0) + ((rd_T41 l0 x9_1).f1))) (wrap64 ((wrap64 (x4_1 + ((rd_T41 l0 x9_1).f3))) - ((rd_T41 l0 x9_1).f1))) l0 (l0.length : Int) (wrap64 (x9_1 + 1))) else (some false))) else (some false)) = some r := H
      have A5 := Aside0.mk A50
      clear A50
      by_cases c6 : t108 = true
      ·subst c6
       have H1 : (if ((rd_T41 l0 x9_1).f0) < x3_1 then (some false) else (if ((rd_T41 l0 x9_1).f2) = (wrap64 (((rd_T41 l0 x9_1).f0) + x4_1)) then (apply_Right.l0 k1 (wrap64 (((rd_T41 l0 x9_1).f0) + ((rd_T41 l0 x9_1).f1))) (wrap64 ((wrap64 (x4_1 + ((rd_T41 l0 x9_1).f3))) - ((rd_T41 l0 x9_1).f1))) l0 (l0.length : Int) (wrap64 (x9_1 + 1))) else (some false))) = some r := by rw [if_pos rfl] at H; exact H
       clear H
       have H := H1
       clear H1
       by_cases c7 : ((rd_T41 l0 x9_1).f0) < x3_1
       ·rw [if_pos c7] at H
        have c7b0 : decide (((rd_T41 l0 x9_1).f0) < x3_1) = true := decide_eq_true c7
        clear c7
        obtain rfl := Option.some.inj H
        have p106 : 0 ≤ (x9_1 : Int) := of_decide_eq_true (by first | (with_reducible assumption) | assumption)
        have q106 : x9_1 < (l0.length : Int) := of_decide_eq_true (by first | (with_reducible assumption) | assumption)
        obtain ⟨ad106, A106_4, c106_4, e106, hx106_0, hx106_1, hx106_2, hx106_3, hx106_4, hl106_4, hi106_4⟩ := at_T41 HR0.out x9_1 p106 q106
        cases e106
        replace hx106_0 := (HB.out.cell (World.block_lt_of_cell? w _ hx106_0)).trans hx106_0
        replace hx106_1 := (HB.out.cell (World.block_lt_of_cell? w _ hx106_1)).trans hx106_1
        replace hx106_2 := (HB.out.cell (World.block_lt_of_cell? w _ hx106_2)).trans hx106_2
        replace hx106_3 := (HB.out.cell (World.block_lt_of_cell? w _ hx106_3)).trans hx106_3
        replace hx106_4 := (HB.out.cell (World.block_lt_of_cell? w _ hx106_4)).trans hx106_4
        have HR106_4 := Aside0.mk hi106_4
        have HC106_4 := Aside0.mk hl106_4
        clear hi106_4 hl106_4
        replace p106 := eq_true p106
        replace q106 := eq_true q106
        go_wp2_with (first | ((with_reducible refine gate_dst (N := 6) rfl ?_); refine box_event ?hg (N := 6) ?hd (cs := #[.int .i64 0, .int .i64 0, .int .i64 0, .int .i64 0, .slice none 0 0]) (t := 41) ?hr ?_; (case hd => rfl); (case hg => rfl); (case hr => first | (go_simp; done) | (go_simp; rfl)); intro gb107 hg w8 hbox hb; have n0_ := Aside0.mk (below_step (by repeat (first | (with_reducible first | exact HB.out | apply below_alloc | apply pw_below_drewN | apply below_drew1) | exact HB.out)) hb); have n1_ := Aside0.mk (hbox); have n2_ := Aside0.mk ((by rw [hg]; exact (below_size (by repeat (first | (with_reducible first | exact HB.out | apply below_alloc | apply pw_below_drewN | apply below_drew1) | exact HB.out))) : w.heap.size ≤ gb107)); have n3_ := Aside0.mk ((by rw [hg]; exact (below_size (by repeat (first | (with_reducible first | exact HB.out | apply below_alloc | apply pw_below_drewN | apply below_drew1) | exact HB.out))) : w.heap.size ≤ gb107)); clear HB; have HB := n0_; have BK107 := n1_; have GW107 := n2_; have GE107 := n3_; clear n0_ n1_ n2_ n3_; clear hb hbox hg; have hcz9_0 : w8.cell? ⟨gb107, 0, none⟩ = some (.int .i64 0) := (blk_cell BK107.out 0).trans rfl; have hcz9_1 : w8.cell? ⟨gb107, 1, none⟩ = some (.int .i64 0) := (blk_cell BK107.out 1).trans rfl; have hcz9_2 : w8.cell? ⟨gb107, 2, none⟩ = some (.int .i64 0) := (blk_cell BK107.out 2).trans rfl; have hcz9_3 : w8.cell? ⟨gb107, 3, none⟩ = some (.int .i64 0) := (blk_cell BK107.out 3).trans rfl; have hcz9_4 : w8.cell? ⟨gb107, 4, none⟩ = some (.slice none 0 0) := (blk_cell BK107.out 4).trans rfl; have hfz9_0 := blk_frozen BK107.out 0; have hfz9_1 := blk_frozen BK107.out 1; have hfz9_2 := blk_frozen BK107.out 2; have hfz9_3 := blk_frozen BK107.out 3; have hfz9_4 := blk_frozen BK107.out 4) | (go_at_call 24; (with_reducible refine (hunk_Right.calls k1 ((rd_T41 l0 x9_1).f0) ((rd_T41 l0 x9_1).f1) ((rd_T41 l0 x9_1).f2) ((rd_T41 l0 x9_1).f3) _ _ ((rd_T41 l0 x9_1).f4) true _ ?side1 ?side2 A5.out).mono ?_); (case side1 => exact Kd.C_below HR106_4.out (by repeat (first | (with_reducible first | exact HB.out | apply below_alloc | apply pw_below_drewN | apply below_drew1 | refine below_set ?_ GE107.out) | exact HB.out))); (case side2 => exact HC106_4.out); rintro e w10 ⟨rfl, hb⟩; have n0_ := Aside0.mk (blk_below (g := gb107) (o := .cells #[.int .i64 ((rd_T41 l0 x9_1).f0), .int .i64 ((rd_T41 l0 x9_1).f1), .int .i64 ((rd_T41 l0 x9_1).f2), .int .i64 ((rd_T41 l0 x9_1).f3), .slice A106_4 ((rd_T41 l0 x9_1).f4).length c106_4] 41 (0, 0)) (by (with_reducible repeat (first | refine blk_drewN ?_ _ | refine blk_drew ?_ | refine blk_alloc ?_ _)); refine blk_put (cs := #[.int .i64 ((rd_T41 l0 x9_1).f0), .int .i64 ((rd_T41 l0 x9_1).f1), .int .i64 ((rd_T41 l0 x9_1).f2), .int .i64 ((rd_T41 l0 x9_1).f3), .slice none 0 0]) ?_ 4 _ rfl; (with_reducible repeat (first | refine blk_drewN ?_ _ | refine blk_drew ?_ | refine blk_alloc ?_ _)); refine blk_put (cs := #[.int .i64 ((rd_T41 l0 x9_1).f0), .int .i64 ((rd_T41 l0 x9_1).f1), .int .i64 ((rd_T41 l0 x9_1).f2), .int .i64 0, .slice none 0 0]) ?_ 3 _ rfl; (with_reducible repeat (first | refine blk_drewN ?_ _ | refine blk_drew ?_ | refine blk_alloc ?_ _)); refine blk_put (cs := #[.int .i64 ((rd_T41 l0 x9_1).f0), .int .i64 ((rd_T41 l0 x9_1).f1), .int .i64 0, .int .i64 0, .slice none 0 0]) ?_ 2 _ rfl; (with_reducible repeat (first | refine blk_drewN ?_ _ | refine blk_drew ?_ | refine blk_alloc ?_ _)); refine blk_put (cs := #[.int .i64 ((rd_T41 l0 x9_1).f0), .int .i64 0, .int .i64 0, .int .i64 0, .slice none 0 0]) ?_ 1 _ rfl; (with_reducible repeat (first | refine blk_drewN ?_ _ | refine blk_drew ?_ | refine blk_alloc ?_ _)); refine blk_put (cs := #[.int .i64 0, .int .i64 0, .int .i64 0, .int .i64 0, .slice none 0 0]) ?_ 0 _ rfl; (with_reducible repeat (first | refine blk_drewN ?_ _ | refine blk_drew ?_ | refine blk_alloc ?_ _)); exact BK107.out) hb); have n1_ := Aside0.mk (below_step (by repeat (first | (with_reducible first | exact HB.out | apply below_alloc | apply pw_below_drewN | apply below_drew1 | refine below_set ?_ GE107.out) | exact HB.out)) hb); clear BK107; clear HB; have BK107 := n0_; have HB := n1_; clear n0_ n1_; (try clear hb); (try clear hb2); (try clear hk); (try clear hi); have hcz11_0 : w10.cell? ⟨gb107, 0, none⟩ = some (.int .i64 ((rd_T41 l0 x9_1).f0)) := (blk_cell BK107.out 0).trans rfl; have hcz11_1 : w10.cell? ⟨gb107, 1, none⟩ = some (.int .i64 ((rd_T41 l0 x9_1).f1)) := (blk_cell BK107.out 1).trans rfl; have hcz11_2 : w10.cell? ⟨gb107, 2, none⟩ = some (.int .i64 ((rd_T41 l0 x9_1).f2)) := (blk_cell BK107.out 2).trans rfl; have hcz11_3 : w10.cell? ⟨gb107, 3, none⟩ = some (.int .i64 ((rd_T41 l0 x9_1).f3)) := (blk_cell BK107.out 3).trans rfl; have hcz11_4 : w10.cell? ⟨gb107, 4, none⟩ = some (.slice A106_4 ((rd_T41 l0 x9_1).f4).length c106_4) := (blk_cell BK107.out 4).trans rfl; have hfz11_0 := blk_frozen BK107.out 0; have hfz11_1 := blk_frozen BK107.out 1; have hfz11_2 := blk_frozen BK107.out 2; have hfz11_3 := blk_frozen BK107.out 3; have hfz11_4 := blk_frozen BK107.out 4))
        go_ret
        exact ⟨by first | rfl | (simp [errW_none, errW_some] <;> rfl) | (simp [*, errW_none, errW_some] <;> rfl), by repeat (first | (with_reducible first | exact HB.out | apply below_alloc | apply pw_below_drewN | apply below_drew1 | refine below_set ?_ GE107.out) | exact HB.out)⟩
       ·rw [if_neg c7] at H
        have c7b0 : decide (((rd_T41 l0 x9_1).f0) < x3_1) = false := decide_eq_false c7
        clear c7
        by_cases c12 : ((rd_T41 l0 x9_1).f2) = (wrap64 (((rd_T41 l0 x9_1).f0) + x4_1))
        ·rw [if_pos c12] at H
         have c12b0 : (((rd_T41 l0 x9_1).f2) == (wrap64 (((rd_T41 l0 x9_1).f0) + x4_1))) = true := beq_iff_eq.mpr c12
         have c12b1 : (((rd_T41 l0 x9_1).f2) != (wrap64 (((rd_T41 l0 x9_1).f0) + x4_1))) = false := bne_eq_false_iff_eq.mpr c12
         clear c12
         have H' := Aside0.mk H
         clear H
         have p106 : 0 ≤ (x9_1 : Int) := of_decide_eq_true (by first | (with_reducible assumption) | assumption)
         have q106 : x9_1 < (l0.length : Int) := of_decide_eq_true (by first | (with_reducible assumption) | assumption)
         obtain ⟨ad106, A106_4, c106_4, e106, hx106_0, hx106_1, hx106_2, hx106_3, hx106_4, hl106_4, hi106_4⟩ := at_T41 HR0.out x9_1 p106 q106
         cases e106
         replace hx106_0 := (HB.out.cell (World.block_lt_of_cell? w _ hx106_0)).trans hx106_0
         replace hx106_1 := (HB.out.cell (World.block_lt_of_cell? w _ hx106_1)).trans hx106_1
         replace hx106_2 := (HB.out.cell (World.block_lt_of_cell? w _ hx106_2)).trans hx106_2
         replace hx106_3 := (HB.out.cell (World.block_lt_of_cell? w _ hx106_3)).trans hx106_3
         replace hx106_4 := (HB.out.cell (World.block_lt_of_cell? w _ hx106_4)).trans hx106_4
         have HR106_4 := Aside0.mk hi106_4
         have HC106_4 := Aside0.mk hl106_4
         clear hi106_4 hl106_4
         replace p106 := eq_true p106
         replace q106 := eq_true q106
         go_wp2_with (first | ((with_reducible refine gate_dst (N := 6) rfl ?_); refine box_event ?hg (N := 6) ?hd (cs := #[.int .i64 0, .int .i64 0, .int .i64 0, .int .i64 0, .slice none 0 0]) (t := 41) ?hr ?_; (case hd => rfl); (case hg => rfl); (case hr => first | (go_simp; done) | (go_simp; rfl)); intro gb107 hg w13 hbox hb; have n0_ := Aside0.mk (below_step (by repeat (first | (with_reducible first | exact HB.out | apply below_alloc | apply pw_below_drewN | apply below_drew1) | exact HB.out)) hb); have n1_ := Aside0.mk (hbox); have n2_ := Aside0.mk ((by rw [hg]; exact (below_size (by repeat (first | (with_reducible first | exact HB.out | apply below_alloc | apply pw_below_drewN | apply below_drew1) | exact HB.out))) : w.heap.size ≤ gb107)); have n3_ := Aside0.mk ((by rw [hg]; exact (below_size (by repeat (first | (with_reducible first | exact HB.out | apply below_alloc | apply pw_below_drewN | apply below_drew1) | exact HB.out))) : w.heap.size ≤ gb107)); clear HB; have HB := n0_; have BK107 := n1_; have GW107 := n2_; have GE107 := n3_; clear n0_ n1_ n2_ n3_; clear hb hbox hg; have hcz14_0 : w13.cell? ⟨gb107, 0, none⟩ = some (.int .i64 0) := (blk_cell BK107.out 0).trans rfl; have hcz14_1 : w13.cell? ⟨gb107, 1, none⟩ = some (.int .i64 0) := (blk_cell BK107.out 1).trans rfl; have hcz14_2 : w13.cell? ⟨gb107, 2, none⟩ = some (.int .i64 0) := (blk_cell BK107.out 2).trans rfl; have hcz14_3 : w13.cell? ⟨gb107, 3, none⟩ = some (.int .i64 0) := (blk_cell BK107.out 3).trans rfl; have hcz14_4 : w13.cell? ⟨gb107, 4, none⟩ = some (.slice none 0 0) := (blk_cell BK107.out 4).trans rfl; have hfz14_0 := blk_frozen BK107.out 0; have hfz14_1 := blk_frozen BK107.out 1; have hfz14_2 := blk_frozen BK107.out 2; have hfz14_3 := blk_frozen BK107.out 3; have hfz14_4 := blk_frozen BK107.out 4) | (go_at_call 24; (with_reducible refine (hunk_Right.calls k1 ((rd_T41 l0 x9_1).f0) ((rd_T41 l0 x9_1).f1) ((rd_T41 l0 x9_1).f2) ((rd_T41 l0 x9_1).f3) _ _ ((rd_T41 l0 x9_1).f4) true _ ?side1 ?side2 A5.out).mono ?_); (case side1 => exact Kd.C_below HR106_4.out (by repeat (first | (with_reducible first | exact HB.out | apply below_alloc | apply pw_below_drewN | apply below_drew1 | refine below_set ?_ GE107.out) | exact HB.out))); (case side2 => exact HC106_4.out); rintro e w15 ⟨rfl, hb⟩; have n0_ := Aside0.mk (blk_below (g := gb107) (o := .cells #[.int .i64 ((rd_T41 l0 x9_1).f0), .int .i64 ((rd_T41 l0 x9_1).f1), .int .i64 ((rd_T41 l0 x9_1).f2), .int .i64 ((rd_T41 l0 x9_1).f3), .slice A106_4 ((rd_T41 l0 x9_1).f4).length c106_4] 41 (0, 0)) (by (with_reducible repeat (first | refine blk_drewN ?_ _ | refine blk_drew ?_ | refine blk_alloc ?_ _)); refine blk_put (cs := #[.int .i64 ((rd_T41 l0 x9_1).f0), .int .i64 ((rd_T41 l0 x9_1).f1), .int .i64 ((rd_T41 l0 x9_1).f2), .int .i64 ((rd_T41 l0 x9_1).f3), .slice none 0 0]) ?_ 4 _ rfl; (with_reducible repeat (first | refine blk_drewN ?_ _ | refine blk_drew ?_ | refine blk_alloc ?_ _)); refine blk_put (cs := #[.int .i64 ((rd_T41 l0 x9_1).f0), .int .i64 ((rd_T41 l0 x9_1).f1), .int .i64 ((rd_T41 l0 x9_1).f2), .int .i64 0, .slice none 0 0]) ?_ 3 _ rfl; (with_reducible repeat (first | refine blk_drewN ?_ _ | refine blk_drew ?_ | refine blk_alloc ?_ _)); refine blk_put (cs := #[.int .i64 ((rd_T41 l0 x9_1).f0), .int .i64 ((rd_T41 l0 x9_1).f1), .int .i64 0, .int .i64 0, .slice none 0 0]) ?_ 2 _ rfl; (with_reducible repeat (first | refine blk_drewN ?_ _ | refine blk_drew ?_ | refine blk_alloc ?_ _)); refine blk_put (cs := #[.int .i64 ((rd_T41 l0 x9_1).f0), .int .i64 0, .int .i64 0, .int .i64 0, .slice none 0 0]) ?_ 1 _ rfl; (with_reducible repeat (first | refine blk_drewN ?_ _ | refine blk_drew ?_ | refine blk_alloc ?_ _)); refine blk_put (cs := #[.int .i64 0, .int .i64 0, .int .i64 0, .int .i64 0, .slice none 0 0]) ?_ 0 _ rfl; (with_reducible repeat (first | refine blk_drewN ?_ _ | refine blk_drew ?_ | refine blk_alloc ?_ _)); exact BK107.out) hb); have n1_ := Aside0.mk (below_step (by repeat (first | (with_reducible first | exact HB.out | apply below_alloc | apply pw_below_drewN | apply below_drew1 | refine below_set ?_ GE107.out) | exact HB.out)) hb); clear BK107; clear HB; have BK107 := n0_; have HB := n1_; clear n0_ n1_; (try clear hb); (try clear hb2); (try clear hk); (try clear hi); have hcz16_0 : w15.cell? ⟨gb107, 0, none⟩ = some (.int .i64 ((rd_T41 l0 x9_1).f0)) := (blk_cell BK107.out 0).trans rfl; have hcz16_1 : w15.cell? ⟨gb107, 1, none⟩ = some (.int .i64 ((rd_T41 l0 x9_1).f1)) := (blk_cell BK107.out 1).trans rfl; have hcz16_2 : w15.cell? ⟨gb107, 2, none⟩ = some (.int .i64 ((rd_T41 l0 x9_1).f2)) := (blk_cell BK107.out 2).trans rfl; have hcz16_3 : w15.cell? ⟨gb107, 3, none⟩ = some (.int .i64 ((rd_T41 l0 x9_1).f3)) := (blk_cell BK107.out 3).trans rfl; have hcz16_4 : w15.cell? ⟨gb107, 4, none⟩ = some (.slice A106_4 ((rd_T41 l0 x9_1).f4).length c106_4) := (blk_cell BK107.out 4).trans rfl; have hfz16_0 := blk_frozen BK107.out 0; have hfz16_1 := blk_frozen BK107.out 1; have hfz16_2 := blk_frozen BK107.out 2; have hfz16_3 := blk_frozen BK107.out 3; have hfz16_4 := blk_frozen BK107.out 4))
         repeat (go_quiet (fail); try go_wp2_with (fail))
         go_roundg k1
         case measure => have := HK1.out; omega
         case rel => exact ⟨(wrap64 (((rd_T41 l0 x9_1).f0) + ((rd_T41 l0 x9_1).f1))), (wrap64 ((wrap64 (x4_1 + ((rd_T41 l0 x9_1).f3))) - ((rd_T41 l0 x9_1).f1))), (wrap64 (x9_1 + 1)), (by first | rfl | (simp; done) | (simp [*]; done)), (by first | rfl | (simp; done) | (simp [*]; done)), (by first | rfl | (simp; done) | (simp [*]; done)), H', ⟨by have := HK1.out; omega⟩, ⟨by repeat (first | (with_reducible first | exact HB.out | apply below_alloc | apply pw_below_drewN | apply below_drew1 | refine below_set ?_ GE107.out) | exact HB.out)⟩⟩
        ·rw [if_neg c12] at H
         have c12b0 : (((rd_T41 l0 x9_1).f2) == (wrap64 (((rd_T41 l0 x9_1).f0) + x4_1))) = false := beq_eq_false_iff_ne.mpr c12
         have c12b1 : (((rd_T41 l0 x9_1).f2) != (wrap64 (((rd_T41 l0 x9_1).f0) + x4_1))) = true := bne_iff_ne.mpr c12
         obtain rfl := Option.some.inj H
         have p106 : 0 ≤ (x9_1 : Int) := of_decide_eq_true (by first | (with_reducible assumption) | assumption)
         have q106 : x9_1 < (l0.length : Int) := of_decide_eq_true (by first | (with_reducible assumption) | assumption)
         obtain ⟨ad106, A106_4, c106_4, e106, hx106_0, hx106_1, hx106_2, hx106_3, hx106_4, hl106_4, hi106_4⟩ := at_T41 HR0.out x9_1 p106 q106
         cases e106
         replace hx106_0 := (HB.out.cell (World.block_lt_of_cell? w _ hx106_0)).trans hx106_0
         replace hx106_1 := (HB.out.cell (World.block_lt_of_cell? w _ hx106_1)).trans hx106_1
         replace hx106_2 := (HB.out.cell (World.block_lt_of_cell? w _ hx106_2)).trans hx106_2
         replace hx106_3 := (HB.out.cell (World.block_lt_of_cell? w _ hx106_3)).trans hx106_3
         replace hx106_4 := (HB.out.cell (World.block_lt_of_cell? w _ hx106_4)).trans hx106_4
         have HR106_4 := Aside0.mk hi106_4
         have HC106_4 := Aside0.mk hl106_4
         clear hi106_4 hl106_4
         replace p106 := eq_true p106
         replace q106 := eq_true q106
         go_wp2_with (first | ((with_reducible refine gate_dst (N := 6) rfl ?_); refine box_event ?hg (N := 6) ?hd (cs := #[.int .i64 0, .int .i64 0, .int .i64 0, .int .i64 0, .slice none 0 0]) (t := 41) ?hr ?_; (case hd => rfl); (case hg => rfl); (case hr => first | (go_simp; done) | (go_simp; rfl)); intro gb107 hg w17 hbox hb; have n0_ := Aside0.mk (below_step (by repeat (first | (with_reducible first | exact HB.out | apply below_alloc | apply pw_below_drewN | apply below_drew1) | exact HB.out)) hb); have n1_ := Aside0.mk (hbox); have n2_ := Aside0.mk ((by rw [hg]; exact (below_size (by repeat (first | (with_reducible first | exact HB.out | apply below_alloc | apply pw_below_drewN | apply below_drew1) | exact HB.out))) : w.heap.size ≤ gb107)); have n3_ := Aside0.mk ((by rw [hg]; exact (below_size (by repeat (first | (with_reducible first | exact HB.out | apply below_alloc | apply pw_below_drewN | apply below_drew1) | exact HB.out))) : w.heap.size ≤ gb107)); clear HB; have HB := n0_; have BK107 := n1_; have GW107 := n2_; have GE107 := n3_; clear n0_ n1_ n2_ n3_; clear hb hbox hg; have hcz18_0 : w17.cell? ⟨gb107, 0, none⟩ = some (.int .i64 0) := (blk_cell BK107.out 0).trans rfl; have hcz18_1 : w17.cell? ⟨gb107, 1, none⟩ = some (.int .i64 0) := (blk_cell BK107.out 1).trans rfl; have hcz18_2 : w17.cell? ⟨gb107, 2, none⟩ = some (.int .i64 0) := (blk_cell BK107.out 2).trans rfl; have hcz18_3 : w17.cell? ⟨gb107, 3, none⟩ = some (.int .i64 0) := (blk_cell BK107.out 3).trans rfl; have hcz18_4 : w17.cell? ⟨gb107, 4, none⟩ = some (.slice none 0 0) := (blk_cell BK107.out 4).trans rfl; have hfz18_0 := blk_frozen BK107.out 0; have hfz18_1 := blk_frozen BK107.out 1; have hfz18_2 := blk_frozen BK107.out 2; have hfz18_3 := blk_frozen BK107.out 3; have hfz18_4 := blk_frozen BK107.out 4) | (go_at_call 24; (with_reducible refine (hunk_Right.calls k1 ((rd_T41 l0 x9_1).f0) ((rd_T41 l0 x9_1).f1) ((rd_T41 l0 x9_1).f2) ((rd_T41 l0 x9_1).f3) _ _ ((rd_T41 l0 x9_1).f4) true _ ?side1 ?side2 A5.out).mono ?_); (case side1 => exact Kd.C_below HR106_4.out (by repeat (first | (with_reducible first | exact HB.out | apply below_alloc | apply pw_below_drewN | apply below_drew1 | refine below_set ?_ GE107.out) | exact HB.out))); (case side2 => exact HC106_4.out); rintro e w19 ⟨rfl, hb⟩; have n0_ := Aside0.mk (blk_below (g := gb107) (o := .cells #[.int .i64 ((rd_T41 l0 x9_1).f0), .int .i64 ((rd_T41 l0 x9_1).f1), .int .i64 ((rd_T41 l0 x9_1).f2), .int .i64 ((rd_T41 l0 x9_1).f3), .slice A106_4 ((rd_T41 l0 x9_1).f4).length c106_4] 41 (0, 0)) (by (with_reducible repeat (first | refine blk_drewN ?_ _ | refine blk_drew ?_ | refine blk_alloc ?_ _)); refine blk_put (cs := #[.int .i64 ((rd_T41 l0 x9_1).f0), .int .i64 ((rd_T41 l0 x9_1).f1), .int .i64 ((rd_T41 l0 x9_1).f2), .int .i64 ((rd_T41 l0 x9_1).f3), .slice none 0 0]) ?_ 4 _ rfl; (with_reducible repeat (first | refine blk_drewN ?_ _ | refine blk_drew ?_ | refine blk_alloc ?_ _)); refine blk_put (cs := #[.int .i64 ((rd_T41 l0 x9_1).f0), .int .i64 ((rd_T41 l0 x9_1).f1), .int .i64 ((rd_T41 l0 x9_1).f2), .int .i64 0, .slice none 0 0]) ?_ 3 _ rfl; (with_reducible repeat (first | refine blk_drewN ?_ _ | refine blk_drew ?_ | refine blk_alloc ?_ _)); refine blk_put (cs := #[.int .i64 ((rd_T41 l0 x9_1).f0), .int .i64 ((rd_T41 l0 x9_1).f1), .int .i64 0, .int .i64 0, .slice none 0 0]) ?_ 2 _ rfl; (with_reducible repeat (first | refine blk_drewN ?_ _ | refine blk_drew ?_ | refine blk_alloc ?_ _)); refine blk_put (cs := #[.int .i64 ((rd_T41 l0 x9_1).f0), .int .i64 0, .int .i64 0, .int .i64 0, .slice none 0 0]) ?_ 1 _ rfl; (with_reducible repeat (first | refine blk_drewN ?_ _ | refine blk_drew ?_ | refine blk_alloc ?_ _)); refine blk_put (cs := #[.int .i64 0, .int .i64 0, .int .i64 0, .int .i64 0, .slice none 0 0]) ?_ 0 _ rfl; (with_reducible repeat (first | refine blk_drewN ?_ _ | refine blk_drew ?_ | refine blk_alloc ?_ _)); exact BK107.out) hb); have n1_ := Aside0.mk (below_step (by repeat (first | (with_reducible first | exact HB.out | apply below_alloc | apply pw_below_drewN | apply below_drew1 | refine below_set ?_ GE107.out) | exact HB.out)) hb); clear BK107; clear HB; have BK107 := n0_; have HB := n1_; clear n0_ n1_; (try clear hb); (try clear hb2); (try clear hk); (try clear hi); have hcz20_0 : w19.cell? ⟨gb107, 0, none⟩ = some (.int .i64 ((rd_T41 l0 x9_1).f0)) := (blk_cell BK107.out 0).trans rfl; have hcz20_1 : w19.cell? ⟨gb107, 1, none⟩ = some (.int .i64 ((rd_T41 l0 x9_1).f1)) := (blk_cell BK107.out 1).trans rfl; have hcz20_2 : w19.cell? ⟨gb107, 2, none⟩ = some (.int .i64 ((rd_T41 l0 x9_1).f2)) := (blk_cell BK107.out 2).trans rfl; have hcz20_3 : w19.cell? ⟨gb107, 3, none⟩ = some (.int .i64 ((rd_T41 l0 x9_1).f3)) := (blk_cell BK107.out 3).trans rfl; have hcz20_4 : w19.cell? ⟨gb107, 4, none⟩ = some (.slice A106_4 ((rd_T41 l0 x9_1).f4).length c106_4) := (blk_cell BK107.out 4).trans rfl; have hfz20_0 := blk_frozen BK107.out 0; have hfz20_1 := blk_frozen BK107.out 1; have hfz20_2 := blk_frozen BK107.out 2; have hfz20_3 := blk_frozen BK107.out 3; have hfz20_4 := blk_frozen BK107.out 4))
         go_ret
         exact ⟨by first | rfl | (simp [errW_none, errW_some] <;> rfl) | (simp [*, errW_none, errW_some] <;> rfl), by repeat (first | (with_reducible first | exact HB.out | apply below_alloc | apply pw_below_drewN | apply below_drew1 | refine below_set ?_ GE107.out) | exact HB.out)⟩
      ·replace c6 := Bool.eq_false_iff.mpr c6
       subst c6
       have H1 : (some false) = some r := by rw [if_neg (show ¬ (false = true) by decide)] at H; exact H
       clear H
       have H := H1
       clear H1
       obtain rfl := Option.some.inj H
       have p106 : 0 ≤ (x9_1 : Int) := of_decide_eq_true (by first | (with_reducible assumption) | assumption)
       have q106 : x9_1 < (l0.length : Int) := of_decide_eq_true (by first | (with_reducible assumption) | assumption)
       obtain ⟨ad106, A106_4, c106_4, e106, hx106_0, hx106_1, hx106_2, hx106_3, hx106_4, hl106_4, hi106_4⟩ := at_T41 HR0.out x9_1 p106 q106
       cases e106
       replace hx106_0 := (HB.out.cell (World.block_lt_of_cell? w _ hx106_0)).trans hx106_0
       replace hx106_1 := (HB.out.cell (World.block_lt_of_cell? w _ hx106_1)).trans hx106_1
       replace hx106_2 := (HB.out.cell (World.block_lt_of_cell? w _ hx106_2)).trans hx106_2
       replace hx106_3 := (HB.out.cell (World.block_lt_of_cell? w _ hx106_3)).trans hx106_3
       replace hx106_4 := (HB.out.cell (World.block_lt_of_cell? w _ hx106_4)).trans hx106_4
       have HR106_4 := Aside0.mk hi106_4
       have HC106_4 := Aside0.mk hl106_4
       clear hi106_4 hl106_4
       replace p106 := eq_true p106
       replace q106 := eq_true q106
       go_wp2_with (first | ((with_reducible refine gate_dst (N := 6) rfl ?_); refine box_event ?hg (N := 6) ?hd (cs := #[.int .i64 0, .int .i64 0, .int .i64 0, .int .i64 0, .slice none 0 0]) (t := 41) ?hr ?_; (case hd => rfl); (case hg => rfl); (case hr => first | (go_simp; done) | (go_simp; rfl)); intro gb107 hg w21 hbox hb; have n0_ := Aside0.mk (below_step (by repeat (first | (with_reducible first | exact HB.out | apply below_alloc | apply pw_below_drewN | apply below_drew1) | exact HB.out)) hb); have n1_ := Aside0.mk (hbox); have n2_ := Aside0.mk ((by rw [hg]; exact (below_size (by repeat (first | (with_reducible first | exact HB.out | apply below_alloc | apply pw_below_drewN | apply below_drew1) | exact HB.out))) : w.heap.size ≤ gb107)); have n3_ := Aside0.mk ((by rw [hg]; exact (below_size (by repeat (first | (with_reducible first | exact HB.out | apply below_alloc | apply pw_below_drewN | apply below_drew1) | exact HB.out))) : w.heap.size ≤ gb107)); clear HB; have HB := n0_; have BK107 := n1_; have GW107 := n2_; have GE107 := n3_; clear n0_ n1_ n2_ n3_; clear hb hbox hg; have hcz22_0 : w21.cell? ⟨gb107, 0, none⟩ = some (.int .i64 0) := (blk_cell BK107.out 0).trans rfl; have hcz22_1 : w21.cell? ⟨gb107, 1, none⟩ = some (.int .i64 0) := (blk_cell BK107.out 1).trans rfl; have hcz22_2 : w21.cell? ⟨gb107, 2, none⟩ = some (.int .i64 0) := (blk_cell BK107.out 2).trans rfl; have hcz22_3 : w21.cell? ⟨gb107, 3, none⟩ = some (.int .i64 0) := (blk_cell BK107.out 3).trans rfl; have hcz22_4 : w21.cell? ⟨gb107, 4, none⟩ = some (.slice none 0 0) := (blk_cell BK107.out 4).trans rfl; have hfz22_0 := blk_frozen BK107.out 0; have hfz22_1 := blk_frozen BK107.out 1; have hfz22_2 := blk_frozen BK107.out 2; have hfz22_3 := blk_frozen BK107.out 3; have hfz22_4 := blk_frozen BK107.out 4) | (go_at_call 24; (with_reducible refine (hunk_Right.calls k1 ((rd_T41 l0 x9_1).f0) ((rd_T41 l0 x9_1).f1) ((rd_T41 l0 x9_1).f2) ((rd_T41 l0 x9_1).f3) _ _ ((rd_T41 l0 x9_1).f4) false _ ?side1 ?side2 A5.out).mono ?_); (case side1 => exact Kd.C_below HR106_4.out (by repeat (first | (with_reducible first | exact HB.out | apply below_alloc | apply pw_below_drewN | apply below_drew1 | refine below_set ?_ GE107.out) | exact HB.out))); (case side2 => exact HC106_4.out); rintro e w23 ⟨rfl, hb⟩; have n0_ := Aside0.mk (blk_below (g := gb107) (o := .cells #[.int .i64 ((rd_T41 l0 x9_1).f0), .int .i64 ((rd_T41 l0 x9_1).f1), .int .i64 ((rd_T41 l0 x9_1).f2), .int .i64 ((rd_T41 l0 x9_1).f3), .slice A106_4 ((rd_T41 l0 x9_1).f4).length c106_4] 41 (0, 0)) (by (with_reducible repeat (first | refine blk_drewN ?_ _ | refine blk_drew ?_ | refine blk_alloc ?_ _)); refine blk_put (cs := #[.int .i64 ((rd_T41 l0 x9_1).f0), .int .i64 ((rd_T41 l0 x9_1).f1), .int .i64 ((rd_T41 l0 x9_1).f2), .int .i64 ((rd_T41 l0 x9_1).f3), .slice none 0 0]) ?_ 4 _ rfl; (with_reducible repeat (first | refine blk_drewN ?_ _ | refine blk_drew ?_ | refine blk_alloc ?_ _)); refine blk_put (cs := #[.int .i64 ((rd_T41 l0 x9_1).f0), .int .i64 ((rd_T41 l0 x9_1).f1), .int .i64 ((rd_T41 l0 x9_1).f2), .int .i64 0, .slice none 0 0]) ?_ 3 _ rfl; (with_reducible repeat (first | refine blk_drewN ?_ _ | refine blk_drew ?_ | refine blk_alloc ?_ _)); refine blk_put (cs := #[.int .i64 ((rd_T41 l0 x9_1).f0), .int .i64 ((rd_T41 l0 x9_1).f1), .int .i64 0, .int .i64 0, .slice none 0 0]) ?_ 2 _ rfl; (with_reducible repeat (first | refine blk_drewN ?_ _ | refine blk_drew ?_ | refine blk_alloc ?_ _)); refine blk_put (cs := #[.int .i64 ((rd_T41 l0 x9_1).f0), .int .i64 0, .int .i64 0, .int .i64 0, .slice none 0 0]) ?_ 1 _ rfl; (with_reducible repeat (first | refine blk_drewN ?_ _ | refine blk_drew ?_ | refine blk_alloc ?_ _)); refine blk_put (cs := #[.int .i64 0, .int .i64 0, .int .i64 0, .int .i64 0, .slice none 0 0]) ?_ 0 _ rfl; (with_reducible repeat (first | refine blk_drewN ?_ _ | refine blk_drew ?_ | refine blk_alloc ?_ _)); exact BK107.out) hb); have n1_ := Aside0.mk (below_step (by repeat (first | (with_reducible first | exact HB.out | apply below_alloc | apply pw_below_drewN | apply below_drew1 | refine below_set ?_ GE107.out) | exact HB.out)) hb); clear BK107; clear HB; have BK107 := n0_; have HB := n1_; clear n0_ n1_; (try clear hb); (try clear hb2); (try clear hk); (try clear hi)))
       go_ret
       exact ⟨by first | rfl | (simp [errW_none, errW_some] <;> rfl) | (simp [*, errW_none, errW_some] <;> rfl), by repeat (first | (with_reducible first | exact HB.out | apply below_alloc | apply pw_below_drewN | apply below_drew1 | refine below_set ?_ GE107.out) | exact HB.out)⟩
     ·rw [if_neg c4] at H
      exact absurd H (by simp)
    ·rw [if_neg c3] at H
     exact absurd H (by simp)
   ·rw [if_neg c2] at H
    have c2b0 : decide (x9_1 < (l0.length : Int)) = false := decide_eq_false c2
    clear c2
    obtain rfl := Option.some.inj H
    go_wp2
    go_ret
    exact ⟨by first | rfl | (simp [errW_none, errW_some] <;> rfl) | (simp [*, errW_none, errW_some] <;> rfl), by repeat (first | (with_reducible first | exact HB.out | apply below_alloc | apply pw_below_drewN | apply below_drew1) | exact HB.out)⟩






end Go.Proofs.Ytoaijganmfijmaa.Pr
-- shrunk
/-
Whether hunks are right, as package apply tells, in plain Lean.
-/
namespace Go.Proofs.Ytoaijganmfijmaa.Pr
open Go.RowKit Go.Proofs.YtoaijganmfijmaaW.PrintWords Go.Proofs.YtoaijganmfijmaaW.PrintLast Go.Proofs.YtoaijganmfijmaaW.PrintMore
set_option linter.unusedVariables false
set_option linter.unusedSimpArgs false
theorem ARight_l0 (l : List Hk) (hn : l.length ≤ 1024) (hs : ∀ h ∈ l, h.f4.length ≤ 65536 ∧ -1099511627776 ≤ h.f0 ∧ h.f0 ≤ 1099511627776 ∧ -1099511627776 ≤ h.f2 ∧ h.f2 ≤ 1099511627776) :
  ∀ (d i : Nat) (en more : Int), l.length - i = d → i ≤ l.length → -(65536 * (i : Int)) ≤ more → more ≤ 65536 * (i : Int) → Ev (fun k => apply_Right.l0 k en more l (l.length : Int) (i : Int)) (rightP en more (l.drop i)) := by
 intro d
 induction d with
 | zero =>
  intro i en more hd hi h1 h2
  refine Ev.step (fun _ => apply_Right.l0.eq_2 ..) ?_
  simp only [if_neg (show ¬ (i : Int) < (l.length : Int) by omega)]
  rw [List.drop_of_length_le (by omega)]
  exact Ev.now _
 | succ d ih =>
  intro i en more hd hi h1 h2
  have hlt : i < l.length := by omega
  have hm := hs l[i] (List.getElem_mem hlt)
  refine Ev.step (fun _ => apply_Right.l0.eq_2 ..) ?_
  simp only [if_pos (show (i : Int) < (l.length : Int) by omega), if_pos (show (0 : Int) ≤ (i : Int) by omega), rdH_at hlt]
  rw [List.drop_eq_getElem_cons hlt, rightP]
  generalize l[i] = h at hm ⊢
  have hr := HRight_ev h.f0 h.f1 h.f2 h.f3 h.f4 (by omega)
  rw [right_same] at hr
  refine Ev.bind hr ?_
  cases hrl : rightL h.f0 h.f1 h.f2 h.f3 h.f4 with
  | false =>
   simp only [Bool.false_and, Bool.false_eq_true, if_false]
   exact Ev.now _
  | true =>
   have hz := rightL_size hrl
   have hm45 := manyL_le 45 h.f4
   have hm43 := manyL_le 43 h.f4
   simp only [Bool.true_and, if_true]
   by_cases c1 : h.f0 < en
   ·rw [decide_eq_false (by omega)]
    simp only [if_pos c1, Bool.false_and]
    exact Ev.now _
   ·rw [decide_eq_true (show en ≤ h.f0 by omega)]
    simp only [if_neg c1, Bool.true_and]
    rw [show wrap64 (h.f0 + more) = h.f0 + more by unfold wrap64; omega, show wrap64 (h.f0 + h.f1) = h.f0 + h.f1 by unfold wrap64; omega, show wrap64 (wrap64 (more + h.f3) - h.f1) = more + h.f3 - h.f1 by unfold wrap64; omega, show wrap64 ((i : Int) + 1) = ((i + 1 : Nat) : Int) by unfold wrap64; omega]
    by_cases c2 : h.f2 = h.f0 + more
    ·rw [decide_eq_true c2]
     simp only [if_pos c2, Bool.true_and]
     exact ih (i + 1) _ _ (by omega) (by omega) (by push_cast; omega) (by push_cast; omega)
    ·rw [decide_eq_false c2]
     simp only [if_neg c2, Bool.false_and]
     exact Ev.now _
theorem ARight_ev {a : List ByteArray} {l : List Hk} (h : SmallA a l) : Ev (fun k => apply_Right.f k l) (rightP 0 0 l) := by
 have h1 := ARight_l0 l h.2.1 h.2.2 _ 0 0 0 rfl (by omega) (by simp) (by simp)
 exact h1
end Go.Proofs.Ytoaijganmfijmaa.Pr
-- shrunk
/-
Lines of a hunk that is right are blocks.
-/
namespace Go.Proofs.Ytoaijganmfijmaa.Pr
open Go.RowKit Go.Proofs.YtoaijganmfijmaaW.PrintWords Go.Proofs.YtoaijganmfijmaaW.PrintLast Go.Proofs.YtoaijganmfijmaaW.PrintMore
set_option linter.unusedVariables false
set_option linter.unusedSimpArgs false
theorem blk_big_of (M : Nat) (hM : M ≤ 4611686018427387904) : ∀ (bs : List Blk) (t : List ByteArray), (∀ s ∈ blkLines bs t, s.size ≤ M) → blkBig bs
 | [], t, h => trivial
 | b :: bs, t, h => by
  refine ⟨fun s hs => ?_, blk_big_of M hM bs t (fun s hs => h s (by simp only [blkLines, List.mem_append]; exact Or.inr (Or.inr (Or.inr hs))))⟩
  have key : ∀ c : UInt8, sg c s ∈ blkLines (b :: bs) t → s.size ≤ 4611686018427387904 := fun c hc => by
   have := h _ hc
   rw [sg_size] at this
   omega
  rcases List.mem_append.1 hs with hs | hs
  ·exact key 45 (by simp only [blkLines, List.mem_append]; exact Or.inr (Or.inl (List.mem_map.2 ⟨s, hs, rfl⟩)))
  ·exact key 43 (by simp only [blkLines, List.mem_append]; exact Or.inr (Or.inr (Or.inl (List.mem_map.2 ⟨s, hs, rfl⟩))))
theorem blkLines_len_eq : ∀ (bs : List Blk) (t : List ByteArray), oldN bs + t.length ≤ (blkLines bs t).length ∧ newN bs + t.length ≤ (blkLines bs t).length ∧ bs.length ≤ (blkLines bs t).length + bs.length
 | [], t => by simp [blkLines, sgs_len, oldN, newN]
 | b :: bs, t => by
  have := blkLines_len_eq bs t
  simp only [blkLines, List.length_append, sgs_len, oldN, newN, List.length_cons]; omega
end Go.Proofs.Ytoaijganmfijmaa.Pr
-- shrunk
-- written by a program of this session's (a turned copy of the kit's printer); Lean checks it
namespace Go.Proofs.Ytoaijganmfijmaa.Pr
open Go.RowKit Go.Proofs.YtoaijganmfijmaaW.PrintWords Go.Proofs.YtoaijganmfijmaaW.PrintLast Go.Proofs.YtoaijganmfijmaaW.PrintMore
attribute [local go_sem] max2_int min2_int max_two min_two max_three min_three max_four min_four   -- for this text's walks alone
set_option linter.unusedVariables false
set_option linter.unusedSimpArgs false

def apply_Turn.l0 : Nat → List (S41) → List (S41) → Int → Int → Option ((List (S41)))
 | 0, _, _, _, _ => none
 | k + 1, x3, x9, x10, x11 => if x11 < x10 then (if 0 ≤ x11 then (if x11 < (x9.length : Int) then ((hunk_Turn.f k ((rd_T41 x9 x11).f0) ((rd_T41 x9 x11).f1) ((rd_T41 x9 x11).f2) ((rd_T41 x9 x11).f3) ((rd_T41 x9 x11).f4)).bind fun bt186 => (if x3.length < 2513169434916 then (apply_Turn.l0 k (x3 ++ [(⟨bt186.1, bt186.2.1, bt186.2.2.1, bt186.2.2.2.1, bt186.2.2.2.2⟩ : S41)]) x9 x10 (wrap64 (x11 + 1))) else (none))) else (none)) else (none)) else (some x3)
def apply_Turn.f (k : Nat) (l0 : List (S41)) : Option ((List (S41))) := (apply_Right.f k l0).bind fun t183 => (if t183 = true then (apply_Turn.l0 k ([] : List (S41)) l0 (l0.length : Int) 0) else (some ([] : List (S41))))
theorem apply_Turn.mono_l : ∀ k, (∀ y0 y1 y2 y3, LeO (apply_Turn.l0 k y0 y1 y2 y3) (apply_Turn.l0 (k + 1) y0 y1 y2 y3))
 | 0 => fun _ _ _ _ r h => by simp [apply_Turn.l0] at h
 | k + 1 => by
  have ih0 := apply_Turn.mono_l k
  ·intro y0 y1 y2 y3
   unfold apply_Turn.l0
   repeat' first
   | (with_reducible exact ih0 _ _ _ _)
   | (with_reducible exact apply_Right.mono _ _)
   | (with_reducible exact hunk_Turn.mono _ _ _ _ _ _)
   | (with_reducible exact LeO.refl _)
   | (with_reducible exact LeO.none _)
   | (with_reducible refine LeO.ite ?_ ?_)
   | (with_reducible refine LeO.bind ?_ (fun _ => ?_))
   | exact ih0 _ _ _ _
   | exact apply_Right.mono _ _
   | exact hunk_Turn.mono _ _ _ _ _ _
   | exact LeO.none _
   | refine LeO.ite ?_ ?_
   | refine LeO.bind ?_ (fun _ => ?_)
theorem apply_Turn.mono : ∀ a0 k, LeO (apply_Turn.f k a0) (apply_Turn.f (k + 1) a0) := by
 intro a0 k
 have ih0 := apply_Turn.mono_l k
 unfold apply_Turn.f
 repeat' first
   | (with_reducible exact ih0 _ _ _ _)
   | (with_reducible exact apply_Right.mono _ _)
   | (with_reducible exact hunk_Turn.mono _ _ _ _ _ _)
   | (with_reducible exact LeO.refl _)
   | (with_reducible exact LeO.none _)
   | (with_reducible refine LeO.ite ?_ ?_)
   | (with_reducible refine LeO.bind ?_ (fun _ => ?_))
   | exact ih0 _ _ _ _
   | exact apply_Right.mono _ _
   | exact hunk_Turn.mono _ _ _ _ _ _
   | exact LeO.none _
   | refine LeO.ite ?_ ?_
   | refine LeO.bind ?_ (fun _ => ?_)
set_option maxHeartbeats 8000000 in
set_option maxRecDepth 100000 in
theorem apply_Turn.calls (k : Nat) (A0 : Option Addr) (c0 : Nat) (l0 : List (S41)) (r : List (S41)) (w : World) (hr0 : Kd.C k41 w A0 l0.length l0) (hc0 : l0.length ≤ c0) (h : apply_Turn.f k l0 = some r) :
  Calls Try.prog 18 #[.slice A0 l0.length c0] w fun e w' => ∃ v0_ : Value, e = .returned (v0_) ∧ Kd.S k41 41 w' w.heap.size (fun _ => True) v0_ r ∧ Below w.heap.size w w' := by
 have hu41 := Try.underlying41
 have HR0 := Aside0.mk hr0
 have HC0 := Aside0.mk hc0
 clear hr0 hc0
 have HB := Aside0.mk (Below.refl w.heap.size w)
 have H : ((apply_Right.f k l0).bind fun t183 => (if t183 = true then (apply_Turn.l0 k ([] : List (S41)) l0 (l0.length : Int) 0) else (some ([] : List (S41))))) = some r := h
 clear h
 replace H := Option.bind_eq_some_iff.mp H
 obtain ⟨t183, A20, H⟩ := H
 replace H : (if t183 = true then (apply_Turn.l0 k ([] : List (S41)) l0 (l0.length : Int) 0) else (some ([] : List (S41)))) = some r := H
 have A2 := Aside0.mk A20
 clear A20
 by_cases c3 : t183 = true
 ·subst c3
  have H1 : (apply_Turn.l0 k ([] : List (S41)) l0 (l0.length : Int) 0) = some r := by rw [if_pos rfl] at H; exact H
  clear H
  have H := H1
  clear H1
  have H' := Aside0.mk H
  clear H
  go_enter Try.func18, Try.ntmps18
  go_wp2_with (((with_reducible refine gate_callee (f := 15) rfl ?_); refine goesL_ (some 7) rfl rfl Try.func15 (by kernel_rfl) rfl #[.slice A0 l0.length c0] rfl (by (try simp only [List.map_toArray, List.map_cons, List.map_nil]); first | done | rfl | (simp only [List.length_drop, List.length_take]; rfl)) ?_; (with_reducible refine (apply_Right.calls k _ _ l0 true _ ?side1 ?side2 A2.out).mono ?_); (case side1 => repeat (first | exact HR0.out | (with_reducible refine Kd.C_alloc ?_ _) | (with_reducible refine Kd.C_drewN ?_ _) | (with_reducible refine Kd.C_drew ?_))); (case side2 => exact HC0.out); rintro e w4 ⟨rfl, hb⟩; refine ⟨_, rfl, ?_⟩; have n0_ := Aside0.mk (below_step (by repeat (first | (with_reducible first | exact HB.out | apply below_alloc | apply pw_below_drewN | apply below_drew1) | exact HB.out)) hb); clear HB; have HB := n0_; clear n0_; (try clear hb); (try clear hb2); (try clear hk); (try clear hi)))
  go_loopg [3, 11] k (fun kq v3 v11 w' => ∃ (x3_1 : List (S41)) (x11_1 : Int), v11 = .int .i64 x11_1 ∧ Aside0 (apply_Turn.l0 kq x3_1 l0 (l0.length : Int) x11_1 = some r) ∧ Aside0 (kq ≤ k) ∧ Aside0 (Kd.S k41 41 w' w.heap.size (fun _ => True) v3 x3_1) ∧ Aside0 (Below w.heap.size w w'))
  case atStart => exact ⟨(([] : List (S41))), (0), (by first | rfl | (simp; done) | (simp [*]; done)), H', ⟨Nat.le_refl _⟩, ⟨by first | exact Kd.S_nil _ _ _ _ _ | exact Kd.N_nil _ _ _ _ _ | exact Kd.V_nil _ _ _ _ _ | exact Kd.Q_nil _ _ _ _ _ | exact Kd.R_nil _ _ _ _ _⟩, ⟨by repeat (first | (with_reducible first | exact HB.out | apply below_alloc | apply pw_below_drewN | apply below_drew1) | exact HB.out)⟩⟩
  case round =>
   clear H'
   try clear c1
   try clear p2
   try clear c3
   obtain ⟨x3_1, x11_1, rfl, HA, HK1, HO_3, HB⟩ := hrel
   cases gk with
   | zero => exact absurd HA.out (by simp [apply_Turn.l0])
   | succ k1 =>
    have H := HA.out
    clear HA
    simp only [apply_Turn.l0] at H
    by_cases c5 : x11_1 < (l0.length : Int)
    ·rw [if_pos c5] at H
     have c5b0 : decide (x11_1 < (l0.length : Int)) = true := decide_eq_true c5
     clear c5
     by_cases c6 : 0 ≤ x11_1
     ·rw [if_pos c6] at H
      have c6b0 : decide (0 ≤ x11_1) = true := decide_eq_true c6
      clear c6
      by_cases c7 : x11_1 < (l0.length : Int)
      ·rw [if_pos c7] at H
       have c7b0 : decide (x11_1 < (l0.length : Int)) = true := decide_eq_true c7
       clear c7
       replace H := Option.bind_eq_some_iff.mp H
       obtain ⟨⟨t186, t187, t188, t189, t190⟩, A80, H⟩ := H
       replace H : (if x3_1.length < 2513169434916 then (apply_Turn.l0 k1 (x3_1 ++ [(⟨t186, t187, t188, t189, t190⟩ : S41)]) l0 (l0.length : Int) (wrap64 (x11_1 + 1))) else (none)) = some r := H
       have A8 := Aside0.mk A80
       clear A80
       by_cases c9 : x3_1.length < 2513169434916
       ·rw [if_pos c9] at H
        have LMc9 := Aside0.mk c9
        clear c9
        obtain ⟨y193, hy193⟩ : ∃ y_ : List (S41), y_ = (x3_1 ++ [(⟨t186, t187, t188, t189, t190⟩ : S41)]) := ⟨_, rfl⟩
        replace H : (apply_Turn.l0 k1 y193 l0 (l0.length : Int) (wrap64 (x11_1 + 1))) = some r := by first | (rw [hy193]; with_reducible exact H) | (have H2_ := (Option.bind_some _ _).symm.trans H; rw [hy193]; with_reducible exact H2_) | (have H2_ := (Option.bind_some _ _).symm.trans H; with_reducible exact H2_) | with_reducible exact H | (rw [hy193]; exact H) | exact H
        have Ny193 := Aside0.mk hy193
        clear hy193
        have H' := Aside0.mk H
        clear H
        have p184 : 0 ≤ (x11_1 : Int) := of_decide_eq_true (by first | (with_reducible assumption) | assumption)
        have q184 : x11_1 < (l0.length : Int) := of_decide_eq_true (by first | (with_reducible assumption) | assumption)
        obtain ⟨ad184, A184_4, c184_4, e184, hx184_0, hx184_1, hx184_2, hx184_3, hx184_4, hl184_4, hi184_4⟩ := at_T41 HR0.out x11_1 p184 q184
        cases e184
        replace hx184_0 := (HB.out.cell (World.block_lt_of_cell? w _ hx184_0)).trans hx184_0
        replace hx184_1 := (HB.out.cell (World.block_lt_of_cell? w _ hx184_1)).trans hx184_1
        replace hx184_2 := (HB.out.cell (World.block_lt_of_cell? w _ hx184_2)).trans hx184_2
        replace hx184_3 := (HB.out.cell (World.block_lt_of_cell? w _ hx184_3)).trans hx184_3
        replace hx184_4 := (HB.out.cell (World.block_lt_of_cell? w _ hx184_4)).trans hx184_4
        have HR184_4 := Aside0.mk hi184_4
        have HC184_4 := Aside0.mk hl184_4
        clear hi184_4 hl184_4
        replace p184 := eq_true p184
        replace q184 := eq_true q184
        go_wp2_with (first | ((with_reducible refine gate_dst (N := 5) rfl ?_); refine box_event ?hg (N := 5) ?hd (cs := #[.int .i64 0, .int .i64 0, .int .i64 0, .int .i64 0, .slice none 0 0]) (t := 41) ?hr ?_; (case hd => rfl); (case hg => rfl); (case hr => first | (go_simp; done) | (go_simp; rfl)); intro gb185 hg w10 hbox hb; have n0_ := Aside0.mk (Kd.S_below (Kd.S_elderB (by (with_reducible repeat (first | apply Kd.S_alloc | apply Kd.S_drewN | apply Kd.S_drew)); exact HO_3.out) gb185 (Nat.le_of_eq hg.symm)) hb); have n1_ := Aside0.mk (below_step (by repeat (first | (with_reducible first | exact HB.out | apply below_alloc | apply pw_below_drewN | apply below_drew1) | exact HB.out)) hb); have n2_ := Aside0.mk (hbox); have n3_ := Aside0.mk ((by rw [hg]; exact (below_size (by repeat (first | (with_reducible first | exact HB.out | apply below_alloc | apply pw_below_drewN | apply below_drew1) | exact HB.out))) : w.heap.size ≤ gb185)); have n4_ := Aside0.mk ((by rw [hg]; exact (below_size (by repeat (first | (with_reducible first | exact HB.out | apply below_alloc | apply pw_below_drewN | apply below_drew1) | exact HB.out))) : w.heap.size ≤ gb185)); clear HO_3; clear HB; have HO_3 := n0_; have HB := n1_; have BK185 := n2_; have GW185 := n3_; have GE185 := n4_; clear n0_ n1_ n2_ n3_ n4_; clear hb hbox hg; have hcz11_0 : w10.cell? ⟨gb185, 0, none⟩ = some (.int .i64 0) := (blk_cell BK185.out 0).trans rfl; have hcz11_1 : w10.cell? ⟨gb185, 1, none⟩ = some (.int .i64 0) := (blk_cell BK185.out 1).trans rfl; have hcz11_2 : w10.cell? ⟨gb185, 2, none⟩ = some (.int .i64 0) := (blk_cell BK185.out 2).trans rfl; have hcz11_3 : w10.cell? ⟨gb185, 3, none⟩ = some (.int .i64 0) := (blk_cell BK185.out 3).trans rfl; have hcz11_4 : w10.cell? ⟨gb185, 4, none⟩ = some (.slice none 0 0) := (blk_cell BK185.out 4).trans rfl; have hfz11_0 := blk_frozen BK185.out 0; have hfz11_1 := blk_frozen BK185.out 1; have hfz11_2 := blk_frozen BK185.out 2; have hfz11_3 := blk_frozen BK185.out 3; have hfz11_4 := blk_frozen BK185.out 4) | ((with_reducible refine gate_store (t := 41) (p := 5) rfl ?_); refine store_event (t := 41) (p := 5) (v := ?vo_w12) (w1 := (((((w10.setCell ⟨gb185, 0, none⟩ (.int .i64 ((rd_T41 l0 x11_1).f0))).setCell ⟨gb185, 1, none⟩ (.int .i64 ((rd_T41 l0 x11_1).f1))).setCell ⟨gb185, 2, none⟩ (.int .i64 ((rd_T41 l0 x11_1).f2))).setCell ⟨gb185, 3, none⟩ (.int .i64 ((rd_T41 l0 x11_1).f3))).setCell ⟨gb185, 4, none⟩ (.slice A184_4 ((rd_T41 l0 x11_1).f4).length c184_4))) ?hg ?ho ?hn ?hr ?_; (case ho => rfl); (case hg => rfl); (case hn => rfl); (case hr => first | (go_simp; done) | (go_simp; rfl)); intro w12 hw; have n0_ : Aside0 (Kd.S k41 41 w12 w.heap.size (fun k_ => k_ ≠ gb185) u3 x3_1) := ⟨(by rw [hw]; exact (by (with_reducible repeat (first | apply Kd.S_alloc | apply Kd.S_drewN | apply Kd.S_drew)); exact Kd.S_mono (Kd.S_far (p := ⟨gb185, 4, none⟩) (Kd.S_far (p := ⟨gb185, 3, none⟩) (Kd.S_far (p := ⟨gb185, 2, none⟩) (Kd.S_far (p := ⟨gb185, 1, none⟩) (Kd.S_far (p := ⟨gb185, 0, none⟩) (Kd.S_mono HO_3.out (fun k_ hk => (⟨hk, hk.2⟩ : _ ∧ k_ ≠ gb185))) (fun _ hk => hk.2) (.int .i64 ((rd_T41 l0 x11_1).f0))) (fun _ hk => hk.2) (.int .i64 ((rd_T41 l0 x11_1).f1))) (fun _ hk => hk.2) (.int .i64 ((rd_T41 l0 x11_1).f2))) (fun _ hk => hk.2) (.int .i64 ((rd_T41 l0 x11_1).f3))) (fun _ hk => hk.2) (.slice A184_4 ((rd_T41 l0 x11_1).f4).length c184_4)) (fun _ hk => hk.1.2)))⟩; have n1_ : Aside0 (w12.heap[gb185]? = some (.cells #[.int .i64 ((rd_T41 l0 x11_1).f0), .int .i64 ((rd_T41 l0 x11_1).f1), .int .i64 ((rd_T41 l0 x11_1).f2), .int .i64 ((rd_T41 l0 x11_1).f3), .slice A184_4 ((rd_T41 l0 x11_1).f4).length c184_4] 41 (0, 0))) := ⟨(by rw [hw]; exact (by (with_reducible repeat (first | refine blk_drewN ?_ _ | refine blk_drew ?_ | refine blk_alloc ?_ _)); refine blk_put (cs := #[.int .i64 ((rd_T41 l0 x11_1).f0), .int .i64 ((rd_T41 l0 x11_1).f1), .int .i64 ((rd_T41 l0 x11_1).f2), .int .i64 ((rd_T41 l0 x11_1).f3), .slice none 0 0]) ?_ 4 _ rfl; (with_reducible repeat (first | refine blk_drewN ?_ _ | refine blk_drew ?_ | refine blk_alloc ?_ _)); refine blk_put (cs := #[.int .i64 ((rd_T41 l0 x11_1).f0), .int .i64 ((rd_T41 l0 x11_1).f1), .int .i64 ((rd_T41 l0 x11_1).f2), .int .i64 0, .slice none 0 0]) ?_ 3 _ rfl; (with_reducible repeat (first | refine blk_drewN ?_ _ | refine blk_drew ?_ | refine blk_alloc ?_ _)); refine blk_put (cs := #[.int .i64 ((rd_T41 l0 x11_1).f0), .int .i64 ((rd_T41 l0 x11_1).f1), .int .i64 0, .int .i64 0, .slice none 0 0]) ?_ 2 _ rfl; (with_reducible repeat (first | refine blk_drewN ?_ _ | refine blk_drew ?_ | refine blk_alloc ?_ _)); refine blk_put (cs := #[.int .i64 ((rd_T41 l0 x11_1).f0), .int .i64 0, .int .i64 0, .int .i64 0, .slice none 0 0]) ?_ 1 _ rfl; (with_reducible repeat (first | refine blk_drewN ?_ _ | refine blk_drew ?_ | refine blk_alloc ?_ _)); refine blk_put (cs := #[.int .i64 0, .int .i64 0, .int .i64 0, .int .i64 0, .slice none 0 0]) ?_ 0 _ rfl; (with_reducible repeat (first | refine blk_drewN ?_ _ | refine blk_drew ?_ | refine blk_alloc ?_ _)); exact BK185.out))⟩; have n2_ : Aside0 (Below w.heap.size w w12) := ⟨(by rw [hw]; exact (by repeat (first | (with_reducible first | exact HB.out | apply below_alloc | apply pw_below_drewN | apply below_drew1 | refine below_set ?_ GE185.out) | exact HB.out)))⟩; clear hw; clear HO_3; clear BK185; clear HB; have HO_3 := n0_; have BK185 := n1_; have HB := n2_; clear n0_ n1_ n2_; have hcz13_0 : w12.cell? ⟨gb185, 0, none⟩ = some (.int .i64 ((rd_T41 l0 x11_1).f0)) := (blk_cell BK185.out 0).trans rfl; have hcz13_1 : w12.cell? ⟨gb185, 1, none⟩ = some (.int .i64 ((rd_T41 l0 x11_1).f1)) := (blk_cell BK185.out 1).trans rfl; have hcz13_2 : w12.cell? ⟨gb185, 2, none⟩ = some (.int .i64 ((rd_T41 l0 x11_1).f2)) := (blk_cell BK185.out 2).trans rfl; have hcz13_3 : w12.cell? ⟨gb185, 3, none⟩ = some (.int .i64 ((rd_T41 l0 x11_1).f3)) := (blk_cell BK185.out 3).trans rfl; have hcz13_4 : w12.cell? ⟨gb185, 4, none⟩ = some (.slice A184_4 ((rd_T41 l0 x11_1).f4).length c184_4) := (blk_cell BK185.out 4).trans rfl; have hfz13_0 := blk_frozen BK185.out 0; have hfz13_1 := blk_frozen BK185.out 1; have hfz13_2 := blk_frozen BK185.out 2; have hfz13_3 := blk_frozen BK185.out 3; have hfz13_4 := blk_frozen BK185.out 4) | ((with_reducible refine gate_callee (f := 27) rfl ?_); refine goesL_ (some 17) rfl rfl Try.func27 (by kernel_rfl) rfl #[.agg #[.int .i64 ((rd_T41 l0 x11_1).f0), .int .i64 ((rd_T41 l0 x11_1).f1), .int .i64 ((rd_T41 l0 x11_1).f2), .int .i64 ((rd_T41 l0 x11_1).f3), .slice A184_4 ((rd_T41 l0 x11_1).f4).length c184_4]] rfl (by (try simp only [List.map_toArray, List.map_cons, List.map_nil]); first | done | rfl | (simp only [List.length_drop, List.length_take]; rfl)) ?_; (with_reducible refine (hunk_Turn.calls k1 ((rd_T41 l0 x11_1).f0) ((rd_T41 l0 x11_1).f1) ((rd_T41 l0 x11_1).f2) ((rd_T41 l0 x11_1).f3) (fun k_ => k_ < w.heap.size) _ _ ((rd_T41 l0 x11_1).f4) t186 t187 t188 t189 t190 _ ?side1 A8.out).mono ?_); (case side1 => exact Kd.V_mk HC184_4.out (Kd.F_below (Kd.C_F Kd.heap_string HR184_4.out) (by repeat (first | (with_reducible first | exact HB.out | apply below_alloc | apply pw_below_drewN | apply below_drew1 | refine below_set ?_ GE185.out) | exact HB.out)))); rintro e w14 ⟨v191, rfl, ho0, hb⟩; refine ⟨_, rfl, ?_⟩; have n0_ := Aside0.mk (Kd.S_elder' (by (with_reducible repeat (first | apply Kd.S_alloc | apply Kd.S_drewN | apply Kd.S_drew)); exact HO_3.out) (Kd.R_base ho0) hb); have n1_ := Aside0.mk (Kd.R_lower (Kd.R_mono (ok' := fun k_ => True) ho0 (fun _ hk_ => trivial)) (below_size (by repeat (first | (with_reducible first | exact HB.out | apply below_alloc | apply pw_below_drewN | apply below_drew1 | refine below_set ?_ GE185.out) | exact HB.out)))); have n2_ := Aside0.mk (blk_below (g := gb185) (o := .cells #[.int .i64 ((rd_T41 l0 x11_1).f0), .int .i64 ((rd_T41 l0 x11_1).f1), .int .i64 ((rd_T41 l0 x11_1).f2), .int .i64 ((rd_T41 l0 x11_1).f3), .slice A184_4 ((rd_T41 l0 x11_1).f4).length c184_4] 41 (0, 0)) (by (with_reducible repeat (first | refine blk_drewN ?_ _ | refine blk_drew ?_ | refine blk_alloc ?_ _)); exact BK185.out) hb); have n3_ := Aside0.mk (below_step (by repeat (first | (with_reducible first | exact HB.out | apply below_alloc | apply pw_below_drewN | apply below_drew1 | refine below_set ?_ GE185.out) | exact HB.out)) hb); clear HO_3; clear BK185; clear HB; have HO_3 := n0_; have HO192 := n1_; have BK185 := n2_; have HB := n3_; clear n0_ n1_ n2_ n3_; (try clear hb); (try clear hb2); (try clear hk); (try clear hi); (try clear ho0); obtain ⟨Ao16, co16, eo16⟩ := Kd.R_slice HO192.out; subst eo16) | ((with_reducible refine gate_builtin (b := .append) (xs := #[.tmp 15, .tmp 18]) rfl ?_); at_builtin; refine Kd.S_append k41 (w0 := w) w.heap.size rfl (.tmp 15) (.tmp 18) 23 41 (.agg #[(.int .i64 0), (.int .i64 0), (.int .i64 0), (.int .i64 0), (.slice none 0 0)]) 56 rfl Try.underlying23 info41 rfl (by decide) (by omega) u3 x3_1 (⟨t186, t187, t188, t189, t190⟩ : S41) [.int .i64 t186, .int .i64 t187, .int .i64 t188, .int .i64 t189, .slice Ao16 t190.length co16] (fun k_ => k_ ≠ gb185) (fun k_ => some k_ = (.slice Ao16 t190.length co16 : Value).ownBlock) rfl rfl ?aP (fun k_ hk_ => ((Kd.R_mono (ok' := fun k_ => ((fun k_ => k_ ≠ gb185)) k_ ∧ some k_ ≠ (u3 : Value).ownBlock) (Kd.R_types (Kd.R_apart' (HO192.out) (Kd.S_typed HO_3.out) (by decide)) BK185.out (by decide)) (fun k_ hk => ⟨hk.2, hk.1.2⟩))).1 k_ hk_.symm) ?aF ?aO ?aB ?aS ?aL ?_; (case aP => exact k41_mkM _ _ _ (⟨t186, t187, t188, t189, t190⟩ : S41) (Kd.R_mono (Kd.R_tight rfl (Kd.R_mono (ok' := fun k_ => ((fun k_ => k_ ≠ gb185)) k_ ∧ some k_ ≠ (u3 : Value).ownBlock) (Kd.R_types (Kd.R_apart' (HO192.out) (Kd.S_typed HO_3.out) (by decide)) BK185.out (by decide)) (fun k_ hk => ⟨hk.2, hk.1.2⟩))) (fun _ h_ => h_))); (case aB => exact (by repeat (first | (with_reducible first | exact HB.out | apply below_alloc | apply pw_below_drewN | apply below_drew1 | refine below_set ?_ GE185.out) | exact HB.out))); (case aF => exact (fun k_ hk => Kd.freshB (g := gb185) (o := .cells #[.int .i64 ((rd_T41 l0 x11_1).f0), .int .i64 ((rd_T41 l0 x11_1).f1), .int .i64 ((rd_T41 l0 x11_1).f2), .int .i64 ((rd_T41 l0 x11_1).f3), .slice A184_4 ((rd_T41 l0 x11_1).f4).length c184_4] 41 (0, 0)) (by (with_reducible repeat (first | refine blk_drewN ?_ _ | refine blk_drew ?_ | refine blk_alloc ?_ _)); exact BK185.out) k_ hk)); (case aO => exact (by (with_reducible repeat (first | apply Kd.S_alloc | apply Kd.S_drewN | apply Kd.S_drew)); exact Kd.S_mono HO_3.out (fun k_ hk => ⟨hk.1, fun e_ => hk.2 e_⟩))); (case aS => exact (below_size (by repeat (first | (with_reducible first | exact HB.out | apply below_alloc | apply pw_below_drewN | apply below_drew1 | refine below_set ?_ GE185.out) | exact HB.out)))); (case aL => have := LMc9.out; omega); intro v194 w15 ho hb hg hat; rw [← Ny193.out] at ho; have n0_ := Aside0.mk (blk_grown (g := gb185) (o := .cells #[.int .i64 ((rd_T41 l0 x11_1).f0), .int .i64 ((rd_T41 l0 x11_1).f1), .int .i64 ((rd_T41 l0 x11_1).f2), .int .i64 ((rd_T41 l0 x11_1).f3), .slice A184_4 ((rd_T41 l0 x11_1).f4).length c184_4] 41 (0, 0)) (by (with_reducible repeat (first | refine blk_drewN ?_ _ | refine blk_drew ?_ | refine blk_alloc ?_ _)); exact BK185.out) hg (Kd.S_away HO_3.out (fun _ hk => hk.1))); have n1_ := Aside0.mk (hb); have n2_ := Aside0.mk (ho); clear BK185; clear HB; clear HO_3; clear HO192; have BK185 := n0_; have HB := n1_; have HO195 := n2_; clear n0_ n1_ n2_; clear ho hb hg hat))
        go_roundg k1
        case measure => have := HK1.out; omega
        case rel => exact ⟨(y193), (wrap64 (x11_1 + 1)), (by first | rfl | (simp; done) | (simp [*]; done)), H', ⟨by have := HK1.out; omega⟩, ⟨by (with_reducible repeat (first | apply Kd.S_alloc | apply Kd.S_drewN | apply Kd.S_drew)); exact Kd.S_mono HO195.out (fun _ hk => trivial)⟩, ⟨by repeat (first | (with_reducible first | exact HB.out | apply below_alloc | apply pw_below_drewN | apply below_drew1 | refine below_set ?_ GE185.out) | exact HB.out)⟩⟩
       ·rw [if_neg c9] at H
        exact absurd H (by simp)
      ·rw [if_neg c7] at H
       exact absurd H (by simp)
     ·rw [if_neg c6] at H
      exact absurd H (by simp)
    ·rw [if_neg c5] at H
     have c5b0 : decide (x11_1 < (l0.length : Int)) = false := decide_eq_false c5
     clear c5
     obtain rfl := Option.some.inj H
     go_wp2
     go_ret
     exact ⟨_, by first | rfl | (simp [errW_none, errW_some] <;> rfl) | (simp [*, errW_none, errW_some] <;> rfl), by (with_reducible repeat (first | apply Kd.S_alloc | apply Kd.S_drewN | apply Kd.S_drew)); exact HO_3.out, by repeat (first | (with_reducible first | exact HB.out | apply below_alloc | apply pw_below_drewN | apply below_drew1) | exact HB.out)⟩
 ·replace c3 := Bool.eq_false_iff.mpr c3
  subst c3
  have H1 : (some ([] : List (S41))) = some r := by rw [if_neg (show ¬ (false = true) by decide)] at H; exact H
  clear H
  have H := H1
  clear H1
  obtain rfl := Option.some.inj H
  go_enter Try.func18, Try.ntmps18
  go_wp2_with (((with_reducible refine gate_callee (f := 15) rfl ?_); refine goesL_ (some 7) rfl rfl Try.func15 (by kernel_rfl) rfl #[.slice A0 l0.length c0] rfl (by (try simp only [List.map_toArray, List.map_cons, List.map_nil]); first | done | rfl | (simp only [List.length_drop, List.length_take]; rfl)) ?_; (with_reducible refine (apply_Right.calls k _ _ l0 false _ ?side1 ?side2 A2.out).mono ?_); (case side1 => repeat (first | exact HR0.out | (with_reducible refine Kd.C_alloc ?_ _) | (with_reducible refine Kd.C_drewN ?_ _) | (with_reducible refine Kd.C_drew ?_))); (case side2 => exact HC0.out); rintro e w17 ⟨rfl, hb⟩; refine ⟨_, rfl, ?_⟩; have n0_ := Aside0.mk (below_step (by repeat (first | (with_reducible first | exact HB.out | apply below_alloc | apply pw_below_drewN | apply below_drew1) | exact HB.out)) hb); clear HB; have HB := n0_; clear n0_; (try clear hb); (try clear hb2); (try clear hk); (try clear hi)))
  go_ret
  exact ⟨_, by first | rfl | (simp [errW_none, errW_some] <;> rfl) | (simp [*, errW_none, errW_some] <;> rfl), by first | exact Kd.S_nil _ _ _ _ _ | exact Kd.N_nil _ _ _ _ _ | exact Kd.V_nil _ _ _ _ _ | exact Kd.Q_nil _ _ _ _ _ | exact Kd.R_nil _ _ _ _ _, by repeat (first | (with_reducible first | exact HB.out | apply below_alloc | apply pw_below_drewN | apply below_drew1) | exact HB.out)⟩

end Go.Proofs.Ytoaijganmfijmaa.Pr
-- shrunk
/-
Hunks the other way round, as package apply tells, in plain Lean.
-/
namespace Go.Proofs.Ytoaijganmfijmaa.Pr
open Go.RowKit Go.Proofs.YtoaijganmfijmaaW.PrintWords Go.Proofs.YtoaijganmfijmaaW.PrintLast Go.Proofs.YtoaijganmfijmaaW.PrintMore
set_option linter.unusedVariables false
set_option linter.unusedSimpArgs false
def BigL (l : List Hk) : Prop := ∀ h ∈ l, h.f4.length ≤ 65536 ∧ ∀ s ∈ h.f4, s.size ≤ 4611686018427387904
theorem ATurn_l0 : ∀ (l m x : List Hk) (i : Nat) (out : List Hk), x.drop i = l → i + l.length = x.length → Turned l m → BigL l → x.length ≤ 1048576 → out.length ≤ i →
  Ev (fun k => apply_Turn.l0 k out x (x.length : Int) (i : Int)) (out ++ m)
 | [], m, x, i, out, hd, hi, ht, hb, hx, ho => by
  cases m with
  | cons _ _ => exact ht.elim
  | nil =>
   refine Ev.step (fun _ => apply_Turn.l0.eq_2 ..) ?_
   simp only [List.length_nil, Nat.add_zero] at hi
   simp only [if_neg (show ¬ (i : Int) < (x.length : Int) by omega), List.append_nil]
   exact Ev.now _
 | h :: l, m, x, i, out, hd, hi, ht, hb, hx, ho => by
  cases m with
  | nil => exact ht.elim
  | cons y m =>
   obtain ⟨⟨A, An, B, Bn, bs, t, rfl, rfl, hok⟩, htr⟩ := ht
   simp only [List.length_cons] at hi
   have hlt : i < x.length := by omega
   rw [List.drop_eq_getElem_cons hlt] at hd
   injection hd with hd1 hd2
   have hbx := hb _ List.mem_cons_self
   refine Ev.step (fun _ => apply_Turn.l0.eq_2 ..) ?_
   simp only [if_pos (show (i : Int) < (x.length : Int) by omega), if_pos (show (0 : Int) ≤ (i : Int) by omega), rdH_at hlt, w_succ hlt (show x.length ≤ 4611686018427387904 by omega), hd1]
   have hle := blkLines_len_eq bs t
   have hsz : blkBig bs := blk_big_of 4611686018427387904 (by omega) bs t hbx.2
   have hnn : oldN bs + newN bs + t.length ≤ 1099511627776 := by have := hbx.1; simp only at this; omega
   refine Ev.bind (HTurn_ev A An B Bn bs t hok hsz hnn) ?_
   simp only [if_pos (show out.length < 2513169434916 by omega)]
   have ih := ATurn_l0 l m x (i + 1) (out ++ [⟨B, Bn, A, An, blkLines (bs.map swapB) t⟩]) hd2 (by omega) htr (fun h hh => hb h (List.mem_cons_of_mem _ hh)) hx (by rw [List.length_append, List.length_singleton]; omega)
   rw [List.append_assoc] at ih
   exact ih
theorem ATurn_ev {a : List ByteArray} {l m : List Hk} (hs : SmallA a l) (hb : BigL l) (hr : rightP 0 0 l = true) (ht : Turned l m) : Ev (fun k => apply_Turn.f k l) m := by
 unfold apply_Turn.f
 have h := ARight_ev hs
 rw [hr] at h
 refine Ev.bind h ?_
 simp only [if_true]
 have := hs.2.1
 have h0 := ATurn_l0 l m l 0 [] rfl (by simp) ht hb (by omega) (by simp)
 exact h0
theorem turned_len : ∀ {l m : List Hk}, Turned l m → m.length = l.length
 | [], [], _ => rfl
 | h :: l, y :: m, ht => by simp only [List.length_cons, turned_len ht.2]
 | [], _ :: _, h => h.elim
 | _ :: _, [], h => h.elim
end Go.Proofs.Ytoaijganmfijmaa.Pr
-- shrunk
/-
apply's must and catch: what they do to a work; the text of an error.
-/
namespace Go.Proofs.Ytoaijganmfijmaa.Pr
open Go.RowKit Go.Proofs.YtoaijganmfijmaaW.PrintWords Go.Proofs.YtoaijganmfijmaaW.PrintLast Go.Proofs.YtoaijganmfijmaaW.PrintMore
set_option linter.unusedVariables false
set_option linter.unusedSimpArgs false
theorem errno3 (w : World) : Calls Try.prog 49 #[.int .i64 3] w fun e w' => (∃ s, e = .returned (.string s)) ∧ Below w.heap.size w w' := by
 have hix : ∀ (s0 s1 s2 s3 s4 s5 s6 s7 s8 s9 s10 s11 s12 s13 : ByteArray) (w : World), (Instr.index 74 (.agg #[.string s0, .string s1, .string s2, .string s3, .string s4, .string s5, .string s6, .string s7, .string s8, .string s9, .string s10, .string s11, .string s12, .string s13]) (.int .i64 3)).run Try.prog w = .ok (.string s3) w := fun _ _ _ _ _ _ _ _ _ _ _ _ _ _ _ => by kernel_rfl
 go_enter Try.func49, Try.ntmps49
 go_wp2
 go_ret
 exact ⟨⟨_, rfl⟩, Below.refl _ _⟩
theorem errno6 (w : World) : Calls Try.prog 49 #[.int .i64 6] w fun e w' => (∃ s, e = .returned (.string s)) ∧ Below w.heap.size w w' := by
 have hix : ∀ (s0 s1 s2 s3 s4 s5 s6 s7 s8 s9 s10 s11 s12 s13 : ByteArray) (w : World), (Instr.index 74 (.agg #[.string s0, .string s1, .string s2, .string s3, .string s4, .string s5, .string s6, .string s7, .string s8, .string s9, .string s10, .string s11, .string s12, .string s13]) (.int .i64 6)).run Try.prog w = .ok (.string s6) w := fun _ _ _ _ _ _ _ _ _ _ _ _ _ _ _ => by kernel_rfl
 go_enter Try.func49, Try.ntmps49
 go_wp2
 go_ret
 exact ⟨⟨_, rfl⟩, Below.refl _ _⟩
theorem must_yes (p : Option Addr) (x : Int) (w : World) : Calls Try.prog 35 #[.pointer p, .bool true, .int .i64 x] w fun e w' => e = .returned (.tuple #[]) ∧ w' = w := by
 go_enter Try.func35, Try.ntmps35
 go_wp2
 go_end0
 exact ⟨rfl, rfl⟩
theorem must_no3 (b : Nat) (x : Int) (w : World) (hc : w.cell? ⟨b, 2, none⟩ = some (.int .i64 x)) (hf : w.frozen? ⟨b, 2, none⟩ = false) :
  Calls Try.prog 35 #[.pointer (some ⟨b, 0, none⟩), .bool false, .int .i64 3] w fun e w' => (∃ u pv, e = .panicked [{ v := .iface u pv, recovered := false }]) ∧ Below (w.setCell ⟨b, 2, none⟩ (.int .i64 3)).heap.size (w.setCell ⟨b, 2, none⟩ (.int .i64 3)) w' := by
 go_enter Try.func35, Try.ntmps35
 go_wp2_with (go_at_call 49; refine (errno3 _).mono ?_; rintro e w' ⟨⟨s, rfl⟩, hb⟩; have HB := Aside0.mk hb; clear hb)
 exact ⟨rfl, ⟨_, _, rfl⟩, HB.out⟩
theorem must_no6 (b : Nat) (x : Int) (w : World) (hc : w.cell? ⟨b, 2, none⟩ = some (.int .i64 x)) (hf : w.frozen? ⟨b, 2, none⟩ = false) :
  Calls Try.prog 35 #[.pointer (some ⟨b, 0, none⟩), .bool false, .int .i64 6] w fun e w' => (∃ u pv, e = .panicked [{ v := .iface u pv, recovered := false }]) ∧ Below (w.setCell ⟨b, 2, none⟩ (.int .i64 6)).heap.size (w.setCell ⟨b, 2, none⟩ (.int .i64 6)) w' := by
 go_enter Try.func35, Try.ntmps35
 go_wp2_with (go_at_call 49; refine (errno6 _).mono ?_; rintro e w' ⟨⟨s, rfl⟩, hb⟩; have HB := Aside0.mk hb; clear hb)
 exact ⟨rfl, ⟨_, _, rfl⟩, HB.out⟩
theorem catch_panicking (b : Nat) (v0 : Value) (u : TypeId) (pv : Value) (older : List PanicEntry) (w : World) (hc : w.cell? ⟨b, 0, none⟩ = some v0) (hs : v0.oneCell' = true) (hz : w.frozen? ⟨b, 0, none⟩ = false) :
  CallsD Try.prog 34 #[.pointer (some ⟨b, 0, none⟩)] (.panicking ({ v := .iface u pv, recovered := false } :: older)) w fun e u' w' =>
   e = .returned (.tuple #[]) ∧ u' = .panicking ({ v := .iface u pv, recovered := true } :: older) ∧ w' = w.setCell ⟨b, 0, none⟩ (.slice none 0 0) := by
 refine callsD_of_wpS Try.func34 rfl fun c₀ cs hu => ?_
 apply wpS_seq
 apply wpS_region
 simp [wpOpsS, go_sem, recoverD, hu, Try.ntmps34, Exit.thenS]
 refine wpS_cond (t := true) (by simp [Act.eval, Array.replicate]) ?_
 simp only [if_true]
 apply wpS_region
 simp [wpOpsS, go_sem, hc, hz, bodyPostS, results, Try.results34]
theorem catch_idle (p : Option Addr) (w : World) :
  CallsD Try.prog 34 #[.pointer p] .returning w fun e u' w' => e = .returned (.tuple #[]) ∧ u' = .returning ∧ w' = w := by
 refine callsD_of_wpS Try.func34 rfl fun c₀ cs hu => ?_
 apply wpS_seq
 apply wpS_region
 simp [wpOpsS, go_sem, recoverD, hu, Try.ntmps34, Exit.thenS]
 refine wpS_cond (t := false) (by simp [Act.eval, Array.replicate]) ?_
 simp only [Bool.false_eq_true, if_false]
 refine wpS_of_wp (wp_skip ?_)
 cases c₀
 simp_all [bodyPostS, results, Try.results34]
end Go.Proofs.Ytoaijganmfijmaa.Pr
-- shrunk
/-
apply's work in memory, and what is read of lists of texts.
-/
namespace Go.Proofs.Ytoaijganmfijmaa.Pr
open Go.RowKit Go.Proofs.YtoaijganmfijmaaW.PrintWords Go.Proofs.YtoaijganmfijmaaW.PrintLast Go.Proofs.YtoaijganmfijmaaW.PrintMore
set_option linter.unusedVariables false
set_option linter.unusedSimpArgs false
structure ABox (w : World) (b : Nat) (v : Value) (done e : Int) (out : List ByteArray) (wr : World) : Prop where
 box : wr.heap[b]? = some (.cells #[v, .int .i64 done, .int .i64 e] 46 (0, 0))
 row : Kd.R Kd.string 9 wr w.heap.size (fun _ => True) v out
 new_ : w.heap.size ≤ b
 bel : Below w.heap.size w wr
theorem ABox.below {w : World} {b : Nat} {v : Value} {done e : Int} {out : List ByteArray} {wr w1 : World} (h : ABox w b v done e out wr) (hb : Below wr.heap.size wr w1) : ABox w b v done e out w1 :=
 ⟨blk_below h.box hb, Kd.R_below h.row hb, h.new_, below_then h.bel h.bel.size hb⟩
theorem ABox.drew {w : World} {b : Nat} {v : Value} {done e : Int} {out : List ByteArray} {wr : World} (h : ABox w b v done e out wr) : ABox w b v done e out wr.drew := h.below (below_drew (Below.refl _ _))
theorem ABox.alloc {w : World} {b : Nat} {v : Value} {done e : Int} {out : List ByteArray} {wr : World} (h : ABox w b v done e out wr) (o : Obj) : ABox w b v done e out (wr.alloc o) := h.below (below_alloc (Below.refl _ _) o)
theorem ABox.far {w : World} {b : Nat} {v : Value} {done e : Int} {out : List ByteArray} {wr : World} (h : ABox w b v done e out wr) : some b ≠ v.ownBlock := by
 intro he
 obtain ⟨cells, hc⟩ := Kd.R_typed h.row b he.symm
 rw [h.box] at hc
 injection hc with hc
 injection hc with _ hc
 exact absurd hc (by decide)
theorem ABox.put {w : World} {b : Nat} {v : Value} {done e : Int} {out : List ByteArray} {wr : World} (h : ABox w b v done e out wr) (j : Nat) (u : Value) : Kd.R Kd.string 9 (wr.setCell ⟨b, j, none⟩ u) w.heap.size (fun _ => True) v out ∧ Below w.heap.size w (wr.setCell ⟨b, j, none⟩ u) :=
 ⟨Kd.R_mono (Kd.R_far (p := ⟨b, j, none⟩) (Kd.R_tight rfl h.row) (fun k hk => fun e_ => h.far (by rw [← hk]; exact congrArg some e_.symm)) u) (fun _ _ => trivial), below_set h.bel h.new_⟩
theorem ABox.done_ {w : World} {b : Nat} {v : Value} {done e : Int} {out : List ByteArray} {wr : World} (h : ABox w b v done e out wr) (n : Int) : ABox w b v n e out (wr.setCell ⟨b, 1, none⟩ (.int .i64 n)) :=
 ⟨blk_put h.box 1 _ rfl, (h.put 1 _).1, h.new_, (h.put 1 _).2⟩
theorem ABox.err {w : World} {b : Nat} {v : Value} {done e : Int} {out : List ByteArray} {wr : World} (h : ABox w b v done e out wr) (n : Int) : ABox w b v done n out (wr.setCell ⟨b, 2, none⟩ (.int .i64 n)) :=
 ⟨blk_put h.box 2 _ rfl, (h.put 2 _).1, h.new_, (h.put 2 _).2⟩
theorem ABox.step {w : World} {b : Nat} {v v3 : Value} {done e : Int} {out out' : List ByteArray} {wr w5 : World} (h : ABox w b v done e out wr) (hg : wr.grownBy w5 v.ownBlock) (hR : Kd.R Kd.string 9 w5 w.heap.size (fun _ => True) v3 out') (hb : Below w.heap.size w w5) :
  w5.heap[b]? = some (.cells #[v, .int .i64 done, .int .i64 e] 46 (0, 0)) ∧ ABox w b v3 done e out' (w5.setCell ⟨b, 0, none⟩ v3) := by
 have hbx := blk_grown h.box hg h.far
 have hne3 : ∀ k, v3.ownBlock = some k → k ≠ b := by
  intro k hk he
  subst he
  obtain ⟨cells, hc⟩ := Kd.R_typed hR k hk
  rw [hbx] at hc
  injection hc with hc
  injection hc with _ hc
  exact absurd hc (by decide)
 exact ⟨hbx, ⟨blk_put hbx 0 _ rfl, Kd.R_mono (Kd.R_far (p := ⟨b, 0, none⟩) (Kd.R_tight rfl hR) (fun k hk => hne3 k hk.symm) v3) (fun _ _ => trivial), h.new_, below_set hb h.new_⟩⟩
theorem ABox.side {w : World} {b : Nat} {v : Value} {done e : Int} {out : List ByteArray} {wr w5 : World} (h : ABox w b v done e out wr) (hg : wr.grownBy w5 v.ownBlock) {g : Nat} {t : TypeId} {cs : Array Value} (hb : wr.heap[g]? = some (.cells cs t (0, 0))) (h1 : t ≠ 9) (h2 : t ≠ 46) (j : Nat) (u : Value) :
  (w5.setCell ⟨b, j, none⟩ u).heap[g]? = some (.cells cs t (0, 0)) := by
 have hne : some g ≠ v.ownBlock := by
  intro he
  obtain ⟨cells, hc⟩ := Kd.R_typed h.row g he.symm
  rw [hb] at hc
  injection hc with hc
  injection hc with _ hc
  exact h1 hc
 have hgb : g ≠ b := blk_ne hb h.box h2
 rw [Below.heap_setCell w5 ⟨b, j, none⟩ u g hgb]
 exact blk_grown hb hg hne
theorem ABox.side0 {w : World} {b : Nat} {v : Value} {done e : Int} {out : List ByteArray} {wr w5 : World} (h : ABox w b v done e out wr) (hg : wr.grownBy w5 v.ownBlock) {g : Nat} {t : TypeId} {cs : Array Value} (hb : wr.heap[g]? = some (.cells cs t (0, 0))) (h1 : t ≠ 9) :
  w5.heap[g]? = some (.cells cs t (0, 0)) := by
 refine blk_grown hb hg (fun he => ?_)
 obtain ⟨cells, hc⟩ := Kd.R_typed h.row g he.symm
 rw [hb] at hc
 injection hc with hc
 injection hc with _ hc
 exact h1 hc
def OneEnd (w : World) (b : Nat) (r : Option (List ByteArray × Nat)) (e : Ending) (w' : World) : Prop := match r with
 | some (out, d) => e = .returned (.tuple #[]) ∧ ∃ v, ABox w b v (d : Int) 0 out w'
 | none => (∃ u pv, e = .panicked [{ v := .iface u pv, recovered := false }]) ∧ ∃ v d out, ABox w b v d 6 out w'
theorem ginfoStrA : (Try.prog.info? 9).map (fun i => (i.zero, i.size, i.bytes)) = some (some (.string ⟨#[]⟩), 1, 16) := by kernel_rfl
theorem cutMidA (A : Option Addr) (c : Nat) (xs : List ByteArray) (lo hi : Nat) (h1 : lo ≤ hi) (h2 : hi ≤ xs.length) (hc : xs.length ≤ c) :
  ∃ A' : Option Addr, (∀ W : World, (Instr.slice 22 (.slice A xs.length c) (some (.int .i64 (lo : Int))) (some (.int .i64 (hi : Int))) none).run Try.prog W = .ok (.slice A' ((xs.take hi).drop lo).length (c - lo)) W) ∧
   (∀ w : World, Kd.C Kd.string w A xs.length xs → Kd.C Kd.string w A' ((xs.take hi).drop lo).length ((xs.take hi).drop lo)) ∧ ((xs.take hi).drop lo).length ≤ c - lo := by
 obtain ⟨i0, hi0, hz⟩ := Option.map_eq_some_iff.1 ginfoStrA
 simp only [Prod.mk.injEq] at hz
 have e : (xs.take hi).drop lo = (xs.drop lo).take (hi - lo) := List.drop_take ..
 rw [e]
 refine ⟨_, fun W => ?_, fun w h => Kd.C_take (Kd.C_drop (c := c) h (by omega) hc) (by rw [List.length_drop]; omega), by rw [List.length_take, List.length_drop]; omega⟩
 have h := cut_mid (P := Try.prog) 22 9 .i64 .i64 Try.underlying22 hi0 1 hz.2.1 A xs.length c (lo : Int) (hi : Int) (Int.natCast_nonneg _) (by omega) (by omega) hc W
 rw [Int.toNat_natCast, Int.toNat_natCast] at h
 rw [h, List.length_take, List.length_drop, Nat.min_eq_left (by omega)]
 rfl
theorem at_textA {w : World} {A : Option Addr} {xs : List ByteArray} (h : Kd.C Kd.string w A xs.length xs) (i : Nat) (hi : i < xs.length) : ∃ ad, A = some ad ∧ w.cell? (ad.add i) = some (.string xs[i]) := by
 obtain ⟨ad, e, hc⟩ := h.2.2 (by omega)
 obtain ⟨c, _, rfl, h3⟩ := hc i (xs[i]) (List.getElem?_eq_getElem hi)
 have h4 := h3 0 _ rfl
 rw [show Kd.string.sz = 1 from rfl, Nat.mul_one, Nat.add_zero] at h4
 exact ⟨ad, e, h4⟩
end Go.Proofs.Ytoaijganmfijmaa.Pr
-- shrunk
/-
apply's one: a hunk done to lines.
-/
namespace Go.Proofs.Ytoaijganmfijmaa.Pr
open Go.RowKit Go.Proofs.YtoaijganmfijmaaW.PrintWords Go.Proofs.YtoaijganmfijmaaW.PrintLast Go.Proofs.YtoaijganmfijmaaW.PrintMore
set_option linter.unusedVariables false
set_option linter.unusedSimpArgs false
def gone_2.T2 : Bool × List (List Nat × List Nat) := (true, [([], []), ([], []), ([1], [1]), ([2], [2]), ([3], [3]), ([], []), ([], []), ([6], [6]), ([7], [7]), ([8], [8]), ([], []), ([10], [10]), ([5, 9, 11], [5, 9, 11]), ([4, 12], [4, 12]), ([0, 0, 1, 2, 3, 4, 5, 6, 7, 8, 9, 10, 11, 12, 13], [0]), ([14, 0, 1, 2, 3, 4, 5, 6, 7, 8, 9, 10, 11, 12, 13], [14]), ([15, 13, 13, 0, 1, 2, 3, 4, 5, 6, 7, 8, 9, 10, 11, 12, 13], [13, 15])])
def gone_2.B2 : List Nat := [0, 0, 2, 6, 14, 0, 0, 64, 192, 448, 0, 1024, 4064, 8190, 16383, 32767, 65535]
theorem gone_2.tab2 : rtab .any (opsOf Try.f36 2) = gone_2.T2 := by kernel_rfl
theorem gone_2.bits2 : waitsOk gone_2.T2.2 gone_2.B2 = true := by kernel_rfl
def gone_8.T8 : Bool × List (List Nat × List Nat) := (true, [([], []), ([], []), ([], []), ([2], [2]), ([1, 3], [1, 3]), ([4], [4]), ([5], [5]), ([5], [5]), ([6, 7, 5], [5, 6, 7]), ([8, 5], [5, 8]), ([5], [5]), ([10, 5], [5, 10]), ([9, 11, 5], [5, 9, 11]), ([5, 12], [5, 12]), ([0, 13, 5], [0, 13])])
def gone_8.B8 : List Nat := [0, 0, 0, 4, 14, 30, 62, 62, 254, 510, 62, 1086, 4094, 8190, 16383]
theorem gone_8.tab8 : rtab .any (opsOf Try.f36 8) = gone_8.T8 := by kernel_rfl
theorem gone_8.bits8 : waitsOk gone_8.T8.2 gone_8.B8 = true := by kernel_rfl
def gone_11.T11 : Bool × List (List Nat × List Nat) := (true, [([], []), ([], []), ([1], [1]), ([2], [2]), ([3], [3]), ([], []), ([5], [5]), ([6], [6]), ([4, 7], [4, 7]), ([0, 0, 1, 2, 3, 4, 5, 6, 7, 8], [0]), ([9, 0, 1, 2, 3, 4, 5, 6, 7, 8], [9]), ([10, 8, 8, 0, 1, 2, 3, 4, 5, 6, 7, 8], [8, 10])])
def gone_11.B11 : List Nat := [0, 0, 2, 6, 14, 0, 32, 96, 254, 511, 1023, 2047]
theorem gone_11.tab11 : rtab .any (opsOf Try.f36 11) = gone_11.T11 := by kernel_rfl
theorem gone_11.bits11 : waitsOk gone_11.T11.2 gone_11.B11 = true := by kernel_rfl
set_option maxRecDepth 100000 in
set_option maxHeartbeats 40000000 in
theorem one_calls (w : World) (b : Nat) (A0 : Option Addr) (c0 : Nat) (a : List ByteArray) (h0 h1 h2 h3 : Int) (A4 : Option Addr) (c4 : Nat) (L : List ByteArray) (v : Value) (done : Nat) (out : List ByteArray) (W : World)
  (hW : ABox w b v (done : Int) 0 out W) (hra : Kd.C Kd.string w A0 a.length a) (hca : a.length ≤ c0) (hrl : Kd.C Kd.string w A4 L.length L) (hcl : L.length ≤ c4) (hd : (done : Int) ≤ h0) (hda : done ≤ a.length) (hne : ∀ s ∈ L, 0 < s.size)
  (hal : a.length ≤ 1099511627776) (hll : L.length ≤ 1099511627776) (hol : out.length ≤ 1099511627776) :
  Calls Try.prog 36 #[.pointer (some ⟨b, 0, none⟩), .slice A0 a.length c0, .agg #[.int .i64 h0, .int .i64 h1, .int .i64 h2, .int .i64 h3, .slice A4 L.length c4]] W (OneEnd w b (oneP a done h0 L out)) := by
 have hu1 := Try.underlying41
 have hu2 := Try.underlying46
 have HW := Aside0.mk hW
 have HRA := Aside0.mk hra
 have HCA := Aside0.mk hca
 have HRL := Aside0.mk hrl
 have HCL := Aside0.mk hcl
 have HNE := Aside0.mk hne
 clear hW hra hca hrl hcl hne
 by_cases hA : h0 ≤ (a.length : Int)
 ·obtain ⟨q, rfl⟩ : ∃ q : Nat, h0 = (q : Int) := ⟨h0.toNat, by omega⟩
  have hq : q ≤ a.length := by omega
  have hdq : done ≤ q := by omega
  have f1 : decide (q ≤ a.length) = true := decide_eq_true hq
  have hr : oneP a done (q : Int) L out = lineP a q (out ++ (a.take q).drop done) L := by rw [oneP, if_pos hA, Int.toNat_natCast]
  rw [hr]
  obtain ⟨Av, cv, ev⟩ := Kd.R_slice HW.out.row
  subst ev
  obtain ⟨A1, hs1, hC1, hl1⟩ := cutMidA A0 c0 a done q hdq hq HCA.out
  obtain ⟨y, hy⟩ : ∃ y, y = (a.take q).drop done := ⟨_, rfl⟩
  rw [← hy] at hs1 hC1 hl1 hr ⊢
  have HY := Aside0.mk hy
  have hyl : y.length ≤ 1099511627776 := by rw [hy, List.length_drop, List.length_take]; omega
  obtain ⟨o1, ho1⟩ : ∃ o, o = out ++ y := ⟨_, rfl⟩
  have HO1 := Aside0.mk ho1
  have hol1 : o1.length ≤ 2199023255552 := by rw [ho1, List.length_append]; omega
  rw [← ho1]
  clear ho1
  have HC1 := Aside0.mk hC1
  have HX := Aside0.mk (HW.out.alloc (.cells #[.int .i64 (q : Int), .int .i64 h1, .int .i64 h2, .int .i64 h3, .slice A4 L.length c4] 41 (0, 0)))
  have HH := Aside0.mk (blk_new W (.cells #[.int .i64 (q : Int), .int .i64 h1, .int .i64 h2, .int .i64 h3, .slice A4 L.length c4] 41 (0, 0)))
  clear hr hd hA hC1 hl1 hy
  go_enter Try.func36, Try.ntmps36
  go_upto_region 2 with (go_at_call 35; (with_reducible refine (must_yes _ _ _).mono ?_); rintro e w' ⟨rfl, rfl⟩)
  generalize W.alloc (.cells #[.int .i64 (q : Int), .int .i64 h1, .int .i64 h2, .int .i64 h3, .slice A4 L.length c4] 41 (0, 0)) = W1 at HX HH ⊢
  generalize W.heap.size = g at HH ⊢
  have HHd := Aside0.mk (blk_below HH.out (below_drew (Below.refl _ _)))
  have HX3 := Aside0.mk HX.out.drew
  have hz0 : W1.drew.cell? ⟨b, 0, none⟩ = some (.slice Av out.length cv) := (blk_cell HX3.out.box 0).trans rfl
  have hz1 : W1.drew.cell? ⟨b, 1, none⟩ = some (.int .i64 (done : Int)) := (blk_cell HX3.out.box 1).trans rfl
  have hz2 := blk_frozen HX3.out.box 0
  have hz3 : W1.drew.cell? ⟨g, 0, none⟩ = some (.int .i64 (q : Int)) := (blk_cell HHd.out 0).trans rfl
  refine start_ (n := 17) (S := fun w' => w'.cell? ⟨b, 0, none⟩ = some (.slice Av out.length cv) ∧ w'.cell? ⟨b, 1, none⟩ = some (.int .i64 (done : Int)) ∧ w'.cell? ⟨g, 0, none⟩ = some (.int .i64 (q : Int))) (ds := [16]) #[false, false, false, false, false, false, false, false, false, false, false, false, false, false, false, false, false] (by kernel_rfl) rfl rfl ⟨hz0, hz1, hz3⟩ (fun hHeld => ?_)
  refine with_tabW gone_2.tab2 gone_2.bits2 (fun HT_ HW_ => ?_)
  generalize W1.drew = W2 at HX3 HHd hz0 hz1 hz2 hz3 hHeld ⊢
  refine pure_ (i := 0) (N := some 16) (v := ?_) (a' := ?_) #[true, false, false, false, false, false, false, false, false, false, false, false, false, false, false, false, false] rfl rfl (any_of HT_.out (by kernel_rfl)) (fun _ _ _ h => h) (Or.inl ⟨by rfl, ?_⟩) ?_ ?_
  rotate_left
  ·intro w'
   go_simp
   with_reducible rfl
  rotate_left
  ·simp only [Act.put, List.setIfInBounds_toArray, List.set_cons_zero, List.set_cons_succ, i64_w, i32_w]
   rfl
  refine pure_ (i := 1) (N := some 17) (v := ?_) (a' := ?_) #[true, true, false, false, false, false, false, false, false, false, false, false, false, false, false, false, false] rfl rfl (any_of HT_.out (by kernel_rfl)) (fun _ _ _ h => h) (Or.inl ⟨by rfl, ?_⟩) ?_ ?_
  rotate_left
  ·intro w'
   go_simp
   with_reducible rfl
  rotate_left
  ·simp only [Act.put, List.setIfInBounds_toArray, List.set_cons_zero, List.set_cons_succ, i64_w, i32_w]
   rfl
  refine pure_ (i := 2) (N := some 18) (v := ?_) (a' := ?_) #[true, true, true, false, false, false, false, false, false, false, false, false, false, false, false, false, false] rfl rfl (any_of HT_.out (by kernel_rfl)) (fun _ _ _ h => h) (Or.inl ⟨by rfl, ?_⟩) ?_ ?_
  rotate_left
  ·intro w'
   go_simp
   with_reducible rfl
  rotate_left
  ·simp only [Act.put, List.setIfInBounds_toArray, List.set_cons_zero, List.set_cons_succ, i64_w, i32_w]
   rfl
  refine pure_ (i := 3) (N := some 19) (v := ?_) (a' := ?_) #[true, true, true, true, false, false, false, false, false, false, false, false, false, false, false, false, false] rfl rfl (any_of HT_.out (by kernel_rfl)) (fun _ _ _ h => h) (Or.inl ⟨by rfl, ?_⟩) ?_ ?_
  rotate_left
  ·intro w'
   go_simp
   with_reducible rfl
  rotate_left
  ·simp only [Act.put, List.setIfInBounds_toArray, List.set_cons_zero, List.set_cons_succ, i64_w, i32_w]
   rfl
  refine pure_ (i := 5) (N := some 21) (v := ?_) (a' := ?_) #[true, true, true, true, false, true, false, false, false, false, false, false, false, false, false, false, false] rfl rfl (any_of HT_.out (by kernel_rfl)) (fun _ _ _ h => h) (Or.inl ⟨by rfl, ?_⟩) ?_ ?_
  rotate_left
  ·intro w'
   go_simp
   with_reducible rfl
  rotate_left
  ·simp only [Act.put, List.setIfInBounds_toArray, List.set_cons_zero, List.set_cons_succ, i64_w, i32_w]
   rfl
  refine pure_ (i := 6) (N := some 22) (v := ?_) (a' := ?_) #[true, true, true, true, false, true, true, false, false, false, false, false, false, false, false, false, false] rfl rfl (any_of HT_.out (by kernel_rfl)) (fun _ _ _ h => h) (Or.inl ⟨by rfl, ?_⟩) ?_ ?_
  rotate_left
  ·intro w'
   go_simp
   with_reducible rfl
  rotate_left
  ·simp only [Act.put, List.setIfInBounds_toArray, List.set_cons_zero, List.set_cons_succ, i64_w, i32_w]
   rfl
  refine pure_ (i := 7) (N := some 23) (v := ?_) (a' := ?_) #[true, true, true, true, false, true, true, true, false, false, false, false, false, false, false, false, false] rfl rfl (any_of HT_.out (by kernel_rfl)) (fun _ _ _ h => h) (Or.inl ⟨by rfl, ?_⟩) ?_ ?_
  rotate_left
  ·intro w'
   go_simp
   with_reducible rfl
  rotate_left
  ·simp only [Act.put, List.setIfInBounds_toArray, List.set_cons_zero, List.set_cons_succ, i64_w, i32_w]
   rfl
  refine pure_ (i := 8) (N := some 24) (v := ?_) (a' := ?_) #[true, true, true, true, false, true, true, true, true, false, false, false, false, false, false, false, false] rfl rfl (any_of HT_.out (by kernel_rfl)) (fun _ _ _ h => h) (Or.inl ⟨by rfl, ?_⟩) ?_ ?_
  rotate_left
  ·intro w'
   go_simp
   with_reducible rfl
  rotate_left
  ·simp only [Act.put, List.setIfInBounds_toArray, List.set_cons_zero, List.set_cons_succ, i64_w, i32_w]
   rfl
  refine pure_ (i := 10) (N := some 26) (v := ?_) (a' := ?_) #[true, true, true, true, false, true, true, true, true, false, true, false, false, false, false, false, false] rfl rfl (any_of HT_.out (by kernel_rfl)) (fun _ _ _ h => h) (Or.inl ⟨by rfl, ?_⟩) ?_ ?_
  rotate_left
  ·intro w'
   go_simp
   with_reducible rfl
  rotate_left
  ·simp only [Act.put, List.setIfInBounds_toArray, List.set_cons_zero, List.set_cons_succ, i64_w, i32_w]
   rfl
  refine take_ (i := 4) (N := some 20) (v := ?_) (a' := ?_) #[true, true, true, true, true, true, true, true, true, false, true, false, false, false, false, false, false] rfl rfl (take_ofW HT_.out HW_.out (by kernel_rfl)) (fun _ _ _ h => h) (Or.inl ⟨by rfl, ?_⟩) hHeld ?_ ?_
  rotate_left
  ·rintro w' ⟨s0, s1, s2⟩
   go_simp
   with_reducible rfl
  rotate_left
  ·simp only [Act.put, List.setIfInBounds_toArray, List.set_cons_zero, List.set_cons_succ, i64_w, i32_w]
   rfl
  refine take_ (i := 9) (N := some 25) (v := ?_) (a' := ?_) #[true, true, true, true, true, true, true, true, true, true, true, false, false, false, false, false, false] rfl rfl (take_ofW HT_.out HW_.out (by kernel_rfl)) (fun _ _ _ h => h) (Or.inl ⟨by rfl, ?_⟩) hHeld ?_ ?_
  rotate_left
  ·rintro w' ⟨s0, s1, s2⟩
   go_simp
   with_reducible rfl
  rotate_left
  ·simp only [Act.put, List.setIfInBounds_toArray, List.set_cons_zero, List.set_cons_succ, i64_w, i32_w]
   rfl
  refine take_ (i := 11) (N := some 27) (v := ?_) (a' := ?_) #[true, true, true, true, true, true, true, true, true, true, true, true, false, false, false, false, false] rfl rfl (take_ofW HT_.out HW_.out (by kernel_rfl)) (fun _ _ _ h => h) (Or.inl ⟨by rfl, ?_⟩) hHeld ?_ ?_
  rotate_left
  ·rintro w' ⟨s0, s1, s2⟩
   go_simp
   with_reducible rfl
  rotate_left
  ·simp only [Act.put, List.setIfInBounds_toArray, List.set_cons_zero, List.set_cons_succ, i64_w, i32_w]
   rfl
  refine pure_ (i := 12) (N := some 28) (v := ?_) (a' := ?_) #[true, true, true, true, true, true, true, true, true, true, true, true, true, false, false, false, false] rfl rfl (any_of HT_.out (by kernel_rfl)) (fun _ _ _ h => h) (Or.inl ⟨by rfl, ?_⟩) ?_ ?_
  rotate_left
  ·intro w'
   go_simp
   with_reducible rfl
  rotate_left
  ·simp only [Act.put, List.setIfInBounds_toArray, List.set_cons_zero, List.set_cons_succ, i64_w, i32_w]
   rfl
  refine one_ (i := 13) (N := some 29) #[true, true, true, true, true, true, true, true, true, true, true, true, true, true, false, false, false] rfl rfl (one_of HT_.out (by kernel_rfl)) (by decide) (fun K hK => ?_)
  refine Kd.R_append_rows_step Kd.string (w0 := w) w.heap.size (by rfl) (.tmp 20) (.tmp 28) 22 9 (.string ⟨#[]⟩) 16 rfl Try.underlying22 ginfoStrA rfl (by decide) (by omega) (.slice Av out.length cv) out y _ _ _ (fun _ => True) (fun _ => False) rfl rfl HX3.out.row (HC1.out _ (Kd.C_below HRA.out HX3.out.bel)) (fun _ _ h => h) (fun _ h => h.elim) (fun _ _ => trivial) HX3.out.bel HX3.out.bel.size (by omega) ?_
  intro v2 w3 ho hb hg2 hat
  rw [← HO1.out] at ho
  obtain ⟨A3, c3, e3⟩ := Kd.R_slice ho
  subst e3
  obtain ⟨hbx, hab⟩ := HX3.out.step hg2 ho hb
  have hk0 := (blk_cell hbx 0).trans rfl
  have hk1 := (blk_cell hbx 1).trans rfl
  have hkf := blk_frozen hbx 0
  have HX4 := Aside0.mk hab
  have HH4 := Aside0.mk (HX3.out.side hg2 HHd.out (by decide) (by decide) 0 (.slice A3 o1.length c3))
  have hk2 := (blk_cell (HX3.out.side0 hg2 HHd.out (by decide)) 0).trans rfl
  clear ho hb hg2 hat hbx hab hz0 hz1 hz3
  refine hK.out _ _ ⟨hk0, hk1, hk2⟩ (fun hHeld => ?_)
  clear hK K
  refine norm_ (a' := ?_) ?_ ?_
  rotate_left
  ·show Act.put _ (some 29) _ = _
   simp only [Act.put, List.setIfInBounds_toArray, List.set_cons_zero, List.set_cons_succ, i64_w, i32_w]
   rfl
  refine pure_ (i := 14) (N := some 30) (v := ?_) (a' := ?_) #[true, true, true, true, true, true, true, true, true, true, true, true, true, true, true, false, false] rfl rfl (any_of HT_.out (by kernel_rfl)) (fun _ _ _ h => h) (Or.inl ⟨by rfl, ?_⟩) ?_ ?_
  rotate_left
  ·intro w'
   go_simp
   with_reducible rfl
  rotate_left
  ·simp only [Act.put, List.setIfInBounds_toArray, List.set_cons_zero, List.set_cons_succ, i64_w, i32_w]
   rfl
  refine pure_ (i := 15) (N := some 31) (v := ?_) (a' := ?_) #[true, true, true, true, true, true, true, true, true, true, true, true, true, true, true, true, false] rfl rfl (any_of HT_.out (by kernel_rfl)) (fun _ _ _ h => h) (Or.inl ⟨by rfl, ?_⟩) ?_ ?_
  rotate_left
  ·intro w'
   go_simp
   with_reducible rfl
  rotate_left
  ·simp only [Act.put, List.setIfInBounds_toArray, List.set_cons_zero, List.set_cons_succ, i64_w, i32_w]
   rfl
  refine last_ (i := 16) (N := none) #[true, true, true, true, true, true, true, true, true, true, true, true, true, true, true, true, true] rfl rfl (one_of HT_.out (by kernel_rfl)) (by decide) (fun K hK => ?_)
  refine skip_ (w1 := ?_) (by rfl) rfl ?_ ?_
  rotate_left
  ·go_simp
   rfl
  refine hK.out _ _ ?_
  clear hK K
  refine done_ (done_of HT_.out (by kernel_rfl)) ?_

  clear hs1
  generalize w3.setCell ⟨b, 0, none⟩ (.slice A3 o1.length c3) = w4 at HX4 HH4 ⊢
  have hz3 : w4.cell? ⟨g, 0, none⟩ = some (.int .i64 (q : Int)) := (blk_cell HH4.out 0).trans rfl
  have hz4 : w4.cell? ⟨g, 4, none⟩ = some (.slice A4 L.length c4) := (blk_cell HH4.out 4).trans rfl
  go_upto_block 0 with (fail)
  clear hz3 hz4
  go_wp2_with (fail)
  go_loopg [6, 37] L.length (fun kq v6 v37 wr => ∃ (x p : Nat) (A3 : Option Addr) (c3 : Nat) (o : List ByteArray), v6 = .int .i64 (p : Int) ∧ v37 = .int .i64 (x : Int) ∧ Aside0 (x ≤ L.length ∧ L.length ≤ kq + x ∧ p ≤ a.length ∧ o.length ≤ o1.length + x) ∧ Aside0 (lineP a p o (L.drop x) = lineP a q o1 L) ∧ Aside0 (ABox w b (.slice A3 o.length c3) (done : Int) 0 o wr))
  case atStart => exact ⟨0, q, A3, c3, o1, rfl, rfl, ⟨by omega⟩, ⟨rfl⟩, HX4⟩
  case round =>
   clear HX4 HX3 HX HW HH HHd HH4
   obtain ⟨x, p, A3, c3, o, rfl, rfl, HB, HQ, HX⟩ := hrel
   by_cases hend : x = L.length
   ·have f2 : decide (x < L.length) = false := decide_eq_false (by omega)
    have HQ2 := Aside0.mk (show lineP a q o1 L = some (o, p) by rw [← HQ.out, List.drop_of_length_le (by omega)]; rfl)
    have hz1 : wr.cell? ⟨b, 1, none⟩ = some (.int .i64 (done : Int)) := (blk_cell HX.out.box 1).trans rfl
    have hz2 := blk_frozen HX.out.box 1
    clear hend
    go_wp2
    go_end0
    rw [HQ2.out]
    exact ⟨rfl, _, HX.out.done_ _⟩
   ·have hxl : x < L.length := by have := HB.out; omega
    obtain ⟨gk', HG⟩ : ∃ m, Aside0 (gk = m + 1) := ⟨gk - 1, ⟨by have := HB.out; omega⟩⟩
    have f2 : decide (x < L.length) = true := decide_eq_true hxl
    obtain ⟨ad, ea, hw1⟩ := at_textA HRL.out x hxl
    cases ea
    obtain ⟨s1, hs1e⟩ : ∃ s1, s1 = L[x] := ⟨_, rfl⟩
    rw [← hs1e] at hw1
    have HSL := Aside0.mk (show L.drop x = s1 :: L.drop (x + 1) by rw [hs1e]; exact List.drop_eq_getElem_cons hxl)
    have hsp : 0 < s1.size := by rw [hs1e]; exact HNE.out _ (List.getElem_mem hxl)
    have hs1 := pw_cell_below HX.out.bel hw1
    have HS1 := Aside0.mk hw1
    obtain ⟨B, hB⟩ : ∃ B : Int, B = bt s1 0 := ⟨_, rfl⟩
    have hx7 : ∀ h : 0 < s1.size, ((s1[0]'h).toNat : Int) = B := by rw [hB]; exact bt_at s1 0
    have HBB := Aside0.mk hB
    have q7 : (0 < s1.size) = True := eq_true hsp
    have qi7 : (0 < (s1.size : Int)) = True := eq_true (by omega)
    have q8 : (1 ≤ s1.size) = True := eq_true hsp
    have qi8 : (1 ≤ (s1.size : Int)) = True := eq_true (by omega)
    have HXL := Aside0.mk hxl
    have hpl : p ≤ a.length := HB.out.2.2.1
    have hol2 : o.length ≤ 4398046511104 := by have := HB.out; omega
    have kx : IntKind.i64.wrap ((x : Int) + 1) = (x : Int) + 1 := IntWalk.i64_in _ (by omega)
    have kp : IntKind.i64.wrap ((p : Int) + 1) = (p : Int) + 1 := IntWalk.i64_in _ (by omega)
    obtain ⟨T, hT⟩ : ∃ T, T = tl s1 := ⟨_, rfl⟩
    have kT : s1.extract 1 s1.size = T := hT.symm
    have HT := Aside0.mk hT
    clear hw1 hs1e hend hB hsp hT
    by_cases c1 : B = 43
    ·as_aux_lemma =>
     have c1a : (B == 43) = true := beq_iff_eq.2 c1
     have c1b : (B != 43) = false := bne_eq_false_iff_eq.2 c1
     have c1c : (B != 45) = true := bne_iff_ne.2 (by omega)
     have c1d : (B == 45) = false := beq_eq_false_iff_ne.2 (by omega)
     have HLP := Aside0.mk (show lineP a p (o ++ [T]) (L.drop (x + 1)) = lineP a q o1 L by rw [← HQ.out, HSL.out, lineP, if_pos (by rw [← HBB.out]; exact c1), HT.out])
     clear c1 kp
     go_wp2
     have HX3 := Aside0.mk HX.out.drew
     have hz0 : wr.drew.cell? ⟨b, 0, none⟩ = some (.slice A3 o.length c3) := (blk_cell HX3.out.box 0).trans rfl
     refine start_ (n := 12) (S := fun w' => w'.cell? ⟨b, 0, none⟩ = some (.slice A3 o.length c3)) (ds := [11]) #[false, false, false, false, false, false, false, false, false, false, false, false] (by kernel_rfl) rfl rfl (hz0) (fun hHeld => ?_)
     refine with_tabW gone_11.tab11 gone_11.bits11 (fun HT_ HW_ => ?_)
     generalize wr.drew = w2 at HX3 hz0 hHeld ⊢
     refine pure_ (i := 0) (N := some 64) (v := ?_) (a' := ?_) #[true, false, false, false, false, false, false, false, false, false, false, false] rfl rfl (any_of HT_.out (by kernel_rfl)) (fun _ _ _ h => h) (Or.inl ⟨by rfl, ?_⟩) ?_ ?_
     rotate_left
     ·intro w'
      go_simp
      with_reducible rfl
     rotate_left
     ·simp only [Act.put, List.setIfInBounds_toArray, List.set_cons_zero, List.set_cons_succ, i64_w, i32_w]
      rfl
     refine pure_ (i := 1) (N := some 65) (v := ?_) (a' := ?_) #[true, true, false, false, false, false, false, false, false, false, false, false] rfl rfl (any_of HT_.out (by kernel_rfl)) (fun _ _ _ h => h) (Or.inl ⟨by rfl, ?_⟩) ?_ ?_
     rotate_left
     ·intro w'
      go_simp
      with_reducible rfl
     rotate_left
     ·simp only [Act.put, List.setIfInBounds_toArray, List.set_cons_zero, List.set_cons_succ, i64_w, i32_w]
      rfl
     refine pure_ (i := 2) (N := some 66) (v := ?_) (a' := ?_) #[true, true, true, false, false, false, false, false, false, false, false, false] rfl rfl (any_of HT_.out (by kernel_rfl)) (fun _ _ _ h => h) (Or.inl ⟨by rfl, ?_⟩) ?_ ?_
     rotate_left
     ·intro w'
      go_simp
      with_reducible rfl
     rotate_left
     ·simp only [Act.put, List.setIfInBounds_toArray, List.set_cons_zero, List.set_cons_succ, i64_w, i32_w]
      rfl
     refine pure_ (i := 3) (N := some 67) (v := ?_) (a' := ?_) #[true, true, true, true, false, false, false, false, false, false, false, false] rfl rfl (any_of HT_.out (by kernel_rfl)) (fun _ _ _ h => h) (Or.inl ⟨by rfl, ?_⟩) ?_ ?_
     rotate_left
     ·intro w'
      go_simp
      with_reducible rfl
     rotate_left
     ·simp only [Act.put, List.setIfInBounds_toArray, List.set_cons_zero, List.set_cons_succ, i64_w, i32_w]
      rfl
     refine pure_ (i := 5) (N := some 69) (v := ?_) (a' := ?_) #[true, true, true, true, false, true, false, false, false, false, false, false] rfl rfl (any_of HT_.out (by kernel_rfl)) (fun _ _ _ h => h) (Or.inl ⟨by rfl, ?_⟩) ?_ ?_
     rotate_left
     ·intro w'
      go_simp
      with_reducible rfl
     rotate_left
     ·simp only [Act.put, List.setIfInBounds_toArray, List.set_cons_zero, List.set_cons_succ, i64_w, i32_w]
      rfl
     refine pure_ (i := 6) (N := some 70) (v := ?_) (a' := ?_) #[true, true, true, true, false, true, true, false, false, false, false, false] rfl rfl (any_of HT_.out (by kernel_rfl)) (fun _ _ _ h => h) (Or.inl ⟨by rfl, ?_⟩) ?_ ?_
     rotate_left
     ·intro w'
      go_simp
      with_reducible rfl
     rotate_left
     ·simp only [Act.put, List.setIfInBounds_toArray, List.set_cons_zero, List.set_cons_succ, i64_w, i32_w]
      rfl
     refine take_ (i := 4) (N := some 68) (v := ?_) (a' := ?_) #[true, true, true, true, true, true, true, false, false, false, false, false] rfl rfl (take_ofW HT_.out HW_.out (by kernel_rfl)) (fun _ _ _ h => h) (Or.inl ⟨by rfl, ?_⟩) hHeld ?_ ?_
     rotate_left
     ·intro w' s0
      go_simp
      with_reducible rfl
     rotate_left
     ·simp only [Act.put, List.setIfInBounds_toArray, List.set_cons_zero, List.set_cons_succ, i64_w, i32_w]
      rfl
     refine one_ (i := 7) (N := some 71) #[true, true, true, true, true, true, true, true, false, false, false, false] rfl rfl (one_of HT_.out (by kernel_rfl)) (by decide) (fun K hK => ?_)
     refine value_ (w1 := ?_) (v := ?_) (by rfl) rfl ?_ ?_
     rotate_left 2
     ·go_simp
      constructor
      ·rfl
      ·rfl
     refine hK.out _ _ ((pw_cell_below (below_alloc (Below.refl _ _) _) hz0)) (fun hHeld => ?_)
     clear hK K
     refine norm_ (a' := ?_) ?_ ?_
     rotate_left
     ·show Act.put _ (some 71) _ = _
      simp only [Act.put, List.setIfInBounds_toArray, List.set_cons_zero, List.set_cons_succ, i64_w, i32_w]
      rfl
     refine one_ (i := 8) (N := some 72) #[true, true, true, true, true, true, true, true, true, false, false, false] rfl rfl (one_of HT_.out (by kernel_rfl)) (by decide) (fun K hK => ?_)
     refine Kd.R_append_step Kd.string (w0 := w) w.heap.size (by rfl) (.tmp 68) (.tmp 71) 22 9 (.string ⟨#[]⟩) 16 rfl Try.underlying22 ginfoStrA rfl (by decide) (by omega) (.slice A3 o.length c3) o T [.string T] (fun _ => True) (fun _ => False) rfl rfl rfl (fun _ h => h.elim) (fun _ _ => trivial) HX3.out.row HX3.out.bel HX3.out.bel.size (by omega) ?_
     intro v2 w5 ho hb hg2 hat
     obtain ⟨A5, c5, e5⟩ := Kd.R_slice ho
     rw [List.length_append, List.length_singleton] at e5
     subst e5
     obtain ⟨hbx, hab⟩ := HX3.out.step hg2 ho hb
     have hk0 := (blk_cell hbx 0).trans rfl
     have hkf := blk_frozen hbx 0
     have HX5 := Aside0.mk hab
     clear ho hb hg2 hat hbx hab hz0
     refine hK.out _ _ (hk0) (fun hHeld => ?_)
     clear hK K
     refine norm_ (a' := ?_) ?_ ?_
     rotate_left
     ·show Act.put _ (some 72) _ = _
      simp only [Act.put, List.setIfInBounds_toArray, List.set_cons_zero, List.set_cons_succ, i64_w, i32_w]
      rfl
     refine pure_ (i := 9) (N := some 73) (v := ?_) (a' := ?_) #[true, true, true, true, true, true, true, true, true, true, false, false] rfl rfl (any_of HT_.out (by kernel_rfl)) (fun _ _ _ h => h) (Or.inl ⟨by rfl, ?_⟩) ?_ ?_
     rotate_left
     ·intro w'
      go_simp
      with_reducible rfl
     rotate_left
     ·simp only [Act.put, List.setIfInBounds_toArray, List.set_cons_zero, List.set_cons_succ, i64_w, i32_w]
      rfl
     refine pure_ (i := 10) (N := some 74) (v := ?_) (a' := ?_) #[true, true, true, true, true, true, true, true, true, true, true, false] rfl rfl (any_of HT_.out (by kernel_rfl)) (fun _ _ _ h => h) (Or.inl ⟨by rfl, ?_⟩) ?_ ?_
     rotate_left
     ·intro w'
      go_simp
      with_reducible rfl
     rotate_left
     ·simp only [Act.put, List.setIfInBounds_toArray, List.set_cons_zero, List.set_cons_succ, i64_w, i32_w]
      rfl
     refine last_ (i := 11) (N := none) #[true, true, true, true, true, true, true, true, true, true, true, true] rfl rfl (one_of HT_.out (by kernel_rfl)) (by decide) (fun K hK => ?_)
     refine skip_ (w1 := ?_) (by rfl) rfl ?_ ?_
     rotate_left
     ·go_simp
      rfl
     refine hK.out _ _ ?_
     clear hK K
     refine done_ (done_of HT_.out (by kernel_rfl)) ?_

     go_wp2
     go_roundg gk'
     case measure => have := HG.out; omega
     case rel =>
      clear kx
      exact ⟨x + 1, p, A5, c5, o ++ [T], rfl, by go_num, ⟨by have := HB.out; have := HG.out; have := HXL.out; rw [List.length_append, List.length_singleton]; omega⟩, HLP, by rw [List.length_append, List.length_singleton]; exact HX5⟩
    ·have c1a : (B == 43) = false := beq_eq_false_iff_ne.2 c1
     have c1b : (B != 43) = true := bne_iff_ne.2 c1
     by_cases c2 : a[p]? = some T
     ·have hpa : p < a.length := by
       rcases Nat.lt_or_ge p a.length with h | h
       ·exact h
       ·rw [List.getElem?_eq_none h] at c2; cases c2
      have hpT : a[p] = T := by rw [List.getElem?_eq_getElem hpa] at c2; exact Option.some.inj c2
      obtain ⟨ad2, ea2, hw2⟩ := at_textA HRA.out p hpa
      cases ea2
      rw [hpT] at hw2
      have HX3 := Aside0.mk HX.out.drew
      have hs2 := pw_cell_below HX3.out.bel hw2
      have f3 : decide (p < a.length) = true := decide_eq_true hpa
      have f3' : (p : Int) < (a.length : Int) := by omega
      have f4 : (T.toList == T.toList) = true := beq_self_eq_true _
      have HLP0 := Aside0.mk (show lineP a (p + 1) (if B = 45 then o else o ++ [T]) (L.drop (x + 1)) = lineP a q o1 L by rw [← HQ.out, HSL.out, lineP, ← HBB.out, if_neg c1, ← HT.out, if_pos c2])
      have HPA := Aside0.mk hpa
      clear c1 c2 hpT hw2
      go_upto_region 8 with (fail)
      go_still_tail 14, (by kernel_rfl)
      change wpList _ _ _ _ _ wr.drew
      generalize wr.drew = w2 at HX3 hs2 ⊢
      go_upto_region 9 with (go_at_call 35; (with_reducible refine (must_yes _ _ _).mono ?_); rintro e w' ⟨rfl, rfl⟩)
      have HXd := HX3
      clear HX3
      go_upto_region 10 with (fail)
      by_cases cm : B = 45
      ·have c3a : (B == 45) = true := beq_iff_eq.2 cm
       have c3b : (B != 45) = false := bne_eq_false_iff_eq.2 cm
       have HLP := Aside0.mk (show lineP a (p + 1) o (L.drop (x + 1)) = lineP a q o1 L by rw [← HLP0.out, if_pos cm])
       clear cm HLP0
       go_wp2
       go_roundg gk'
       case measure => have := HG.out; omega
       case rel =>
        clear kx kp
        exact ⟨x + 1, p + 1, A3, c3, o, by go_num, by go_num, ⟨by have := HB.out; have := HG.out; have := HXL.out; have := HPA.out; omega⟩, HLP, HXd⟩
      ·as_aux_lemma =>
       have c3a : (B == 45) = false := beq_eq_false_iff_ne.2 cm
       have c3b : (B != 45) = true := bne_iff_ne.2 cm
       have HLP := Aside0.mk (show lineP a (p + 1) (o ++ [T]) (L.drop (x + 1)) = lineP a q o1 L by rw [← HLP0.out, if_neg cm])
       clear cm HLP0
       go_wp2
       have HX3 := Aside0.mk HXd.out.drew
       have hz0 : w'.drew.cell? ⟨b, 0, none⟩ = some (.slice A3 o.length c3) := (blk_cell HX3.out.box 0).trans rfl
       refine start_ (n := 12) (S := fun w' => w'.cell? ⟨b, 0, none⟩ = some (.slice A3 o.length c3)) (ds := [11]) #[false, false, false, false, false, false, false, false, false, false, false, false] (by kernel_rfl) rfl rfl (hz0) (fun hHeld => ?_)
       refine with_tabW gone_11.tab11 gone_11.bits11 (fun HT_ HW_ => ?_)
       generalize w'.drew = w8 at HX3 hz0 hHeld ⊢
       refine pure_ (i := 0) (N := some 64) (v := ?_) (a' := ?_) #[true, false, false, false, false, false, false, false, false, false, false, false] rfl rfl (any_of HT_.out (by kernel_rfl)) (fun _ _ _ h => h) (Or.inl ⟨by rfl, ?_⟩) ?_ ?_
       rotate_left
       ·intro w'
        go_simp
        with_reducible rfl
       rotate_left
       ·simp only [Act.put, List.setIfInBounds_toArray, List.set_cons_zero, List.set_cons_succ, i64_w, i32_w]
        rfl
       refine pure_ (i := 1) (N := some 65) (v := ?_) (a' := ?_) #[true, true, false, false, false, false, false, false, false, false, false, false] rfl rfl (any_of HT_.out (by kernel_rfl)) (fun _ _ _ h => h) (Or.inl ⟨by rfl, ?_⟩) ?_ ?_
       rotate_left
       ·intro w'
        go_simp
        with_reducible rfl
       rotate_left
       ·simp only [Act.put, List.setIfInBounds_toArray, List.set_cons_zero, List.set_cons_succ, i64_w, i32_w]
        rfl
       refine pure_ (i := 2) (N := some 66) (v := ?_) (a' := ?_) #[true, true, true, false, false, false, false, false, false, false, false, false] rfl rfl (any_of HT_.out (by kernel_rfl)) (fun _ _ _ h => h) (Or.inl ⟨by rfl, ?_⟩) ?_ ?_
       rotate_left
       ·intro w'
        go_simp
        with_reducible rfl
       rotate_left
       ·simp only [Act.put, List.setIfInBounds_toArray, List.set_cons_zero, List.set_cons_succ, i64_w, i32_w]
        rfl
       refine pure_ (i := 3) (N := some 67) (v := ?_) (a' := ?_) #[true, true, true, true, false, false, false, false, false, false, false, false] rfl rfl (any_of HT_.out (by kernel_rfl)) (fun _ _ _ h => h) (Or.inl ⟨by rfl, ?_⟩) ?_ ?_
       rotate_left
       ·intro w'
        go_simp
        with_reducible rfl
       rotate_left
       ·simp only [Act.put, List.setIfInBounds_toArray, List.set_cons_zero, List.set_cons_succ, i64_w, i32_w]
        rfl
       refine pure_ (i := 5) (N := some 69) (v := ?_) (a' := ?_) #[true, true, true, true, false, true, false, false, false, false, false, false] rfl rfl (any_of HT_.out (by kernel_rfl)) (fun _ _ _ h => h) (Or.inl ⟨by rfl, ?_⟩) ?_ ?_
       rotate_left
       ·intro w'
        go_simp
        with_reducible rfl
       rotate_left
       ·simp only [Act.put, List.setIfInBounds_toArray, List.set_cons_zero, List.set_cons_succ, i64_w, i32_w]
        rfl
       refine pure_ (i := 6) (N := some 70) (v := ?_) (a' := ?_) #[true, true, true, true, false, true, true, false, false, false, false, false] rfl rfl (any_of HT_.out (by kernel_rfl)) (fun _ _ _ h => h) (Or.inl ⟨by rfl, ?_⟩) ?_ ?_
       rotate_left
       ·intro w'
        go_simp
        with_reducible rfl
       rotate_left
       ·simp only [Act.put, List.setIfInBounds_toArray, List.set_cons_zero, List.set_cons_succ, i64_w, i32_w]
        rfl
       refine take_ (i := 4) (N := some 68) (v := ?_) (a' := ?_) #[true, true, true, true, true, true, true, false, false, false, false, false] rfl rfl (take_ofW HT_.out HW_.out (by kernel_rfl)) (fun _ _ _ h => h) (Or.inl ⟨by rfl, ?_⟩) hHeld ?_ ?_
       rotate_left
       ·intro w' s0
        go_simp
        with_reducible rfl
       rotate_left
       ·simp only [Act.put, List.setIfInBounds_toArray, List.set_cons_zero, List.set_cons_succ, i64_w, i32_w]
        rfl
       refine one_ (i := 7) (N := some 71) #[true, true, true, true, true, true, true, true, false, false, false, false] rfl rfl (one_of HT_.out (by kernel_rfl)) (by decide) (fun K hK => ?_)
       refine value_ (w1 := ?_) (v := ?_) (by rfl) rfl ?_ ?_
       rotate_left 2
       ·go_simp
        constructor
        ·rfl
        ·rfl
       refine hK.out _ _ ((pw_cell_below (below_alloc (Below.refl _ _) _) hz0)) (fun hHeld => ?_)
       clear hK K
       refine norm_ (a' := ?_) ?_ ?_
       rotate_left
       ·show Act.put _ (some 71) _ = _
        simp only [Act.put, List.setIfInBounds_toArray, List.set_cons_zero, List.set_cons_succ, i64_w, i32_w]
        rfl
       refine one_ (i := 8) (N := some 72) #[true, true, true, true, true, true, true, true, true, false, false, false] rfl rfl (one_of HT_.out (by kernel_rfl)) (by decide) (fun K hK => ?_)
       refine Kd.R_append_step Kd.string (w0 := w) w.heap.size (by rfl) (.tmp 68) (.tmp 71) 22 9 (.string ⟨#[]⟩) 16 rfl Try.underlying22 ginfoStrA rfl (by decide) (by omega) (.slice A3 o.length c3) o T [.string T] (fun _ => True) (fun _ => False) rfl rfl rfl (fun _ h => h.elim) (fun _ _ => trivial) HX3.out.row HX3.out.bel HX3.out.bel.size (by omega) ?_
       intro v2 w5 ho hb hg2 hat
       obtain ⟨A5, c5, e5⟩ := Kd.R_slice ho
       rw [List.length_append, List.length_singleton] at e5
       subst e5
       obtain ⟨hbx, hab⟩ := HX3.out.step hg2 ho hb
       have hk0 := (blk_cell hbx 0).trans rfl
       have hkf := blk_frozen hbx 0
       have HX5 := Aside0.mk hab
       clear ho hb hg2 hat hbx hab hz0
       refine hK.out _ _ (hk0) (fun hHeld => ?_)
       clear hK K
       refine norm_ (a' := ?_) ?_ ?_
       rotate_left
       ·show Act.put _ (some 72) _ = _
        simp only [Act.put, List.setIfInBounds_toArray, List.set_cons_zero, List.set_cons_succ, i64_w, i32_w]
        rfl
       refine pure_ (i := 9) (N := some 73) (v := ?_) (a' := ?_) #[true, true, true, true, true, true, true, true, true, true, false, false] rfl rfl (any_of HT_.out (by kernel_rfl)) (fun _ _ _ h => h) (Or.inl ⟨by rfl, ?_⟩) ?_ ?_
       rotate_left
       ·intro w'
        go_simp
        with_reducible rfl
       rotate_left
       ·simp only [Act.put, List.setIfInBounds_toArray, List.set_cons_zero, List.set_cons_succ, i64_w, i32_w]
        rfl
       refine pure_ (i := 10) (N := some 74) (v := ?_) (a' := ?_) #[true, true, true, true, true, true, true, true, true, true, true, false] rfl rfl (any_of HT_.out (by kernel_rfl)) (fun _ _ _ h => h) (Or.inl ⟨by rfl, ?_⟩) ?_ ?_
       rotate_left
       ·intro w'
        go_simp
        with_reducible rfl
       rotate_left
       ·simp only [Act.put, List.setIfInBounds_toArray, List.set_cons_zero, List.set_cons_succ, i64_w, i32_w]
        rfl
       refine last_ (i := 11) (N := none) #[true, true, true, true, true, true, true, true, true, true, true, true] rfl rfl (one_of HT_.out (by kernel_rfl)) (by decide) (fun K hK => ?_)
       refine skip_ (w1 := ?_) (by rfl) rfl ?_ ?_
       rotate_left
       ·go_simp
        rfl
       refine hK.out _ _ ?_
       clear hK K
       refine done_ (done_of HT_.out (by kernel_rfl)) ?_

       go_wp2
       go_roundg gk'
       case measure => have := HG.out; omega
       case rel =>
        clear kx kp
        exact ⟨x + 1, p + 1, A5, c5, o ++ [T], by go_num, by go_num, ⟨by have := HB.out; have := HG.out; have := HXL.out; have := HPA.out; rw [List.length_append, List.length_singleton]; omega⟩, HLP, by rw [List.length_append, List.length_singleton]; exact HX5⟩
     ·have HN := Aside0.mk (show lineP a q o1 L = none by rw [← HQ.out, HSL.out, lineP, ← HBB.out, if_neg c1, ← HT.out, if_neg c2])
      have HX3 := Aside0.mk HX.out.drew
      have hz5 : wr.drew.cell? ⟨b, 2, none⟩ = some (.int .i64 0) := (blk_cell HX3.out.box 2).trans rfl
      have hz6 := blk_frozen HX3.out.box 2
      by_cases hpa : p < a.length
      ·obtain ⟨t1, ht1⟩ : ∃ t, t = a[p] := ⟨_, rfl⟩
       have f4 : (t1.toList == T.toList) = false := (Lib.bytes_beq_false_iff _ _).2 (fun h => c2 (by rw [List.getElem?_eq_getElem hpa, ← ht1, h]))
       obtain ⟨ad2, ea2, hw2⟩ := at_textA HRA.out p hpa
       cases ea2
       rw [← ht1] at hw2
       have hs2 := pw_cell_below HX3.out.bel hw2
       have f3 : decide (p < a.length) = true := decide_eq_true hpa
       have f3' : (p : Int) < (a.length : Int) := by omega
       clear c1 c2 ht1 hw2 hpa
       go_upto_region 8 with (fail)
       go_still_tail 14, (by kernel_rfl)
       change wpList _ _ _ _ _ wr.drew
       generalize wr.drew = w2 at HX3 hs2 hz5 hz6 ⊢
       go_wp2_with (go_at_call 35; refine (must_no6 b 0 _ hz5 hz6).mono ?_; rintro e w' ⟨⟨u, pv, rfl⟩, hb⟩; have HBb := Aside0.mk hb; clear hb)
       refine ⟨rfl, ?_⟩
       rw [HN.out]
       exact ⟨⟨_, _, rfl⟩, _, _, _, (HX3.out.err 6).below HBb.out⟩
      ·obtain ⟨zb, hzb⟩ : ∃ zb : Bool, false = zb := ⟨_, rfl⟩
       have f3 : decide (p < a.length) = zb := by rw [← hzb]; exact decide_eq_false hpa
       have fz : (zb = true) = False := by rw [← hzb]; simp
       have HZB := Aside0.mk hzb
       clear hzb
       clear c1 c2 hpa
       go_upto_region 8 with (fail)
       refine wp_region_still_tail 14 (by kernel_rfl) (by kernel_rfl) ?_
       simp only [List.take_succ_cons, List.take_zero, List.drop_succ_cons, List.drop_zero]
       iterate 13 still_step
       obtain rfl := HZB.out
       clear fz
       still_step
       refine wpStill_nil ?_
       change wpList _ _ _ _ _ wr.drew
       generalize wr.drew = w2 at HX3 hz5 hz6 ⊢
       go_wp2_with (go_at_call 35; refine (must_no6 b 0 _ hz5 hz6).mono ?_; rintro e w' ⟨⟨u, pv, rfl⟩, hb⟩; have HBb := Aside0.mk hb; clear hb)
       refine ⟨rfl, ?_⟩
       rw [HN.out]
       exact ⟨⟨_, _, rfl⟩, _, _, _, (HX3.out.err 6).below HBb.out⟩
 ·have f1 : decide (h0 ≤ (a.length : Int)) = false := decide_eq_false hA
  have hr : oneP a done h0 L out = none := by rw [oneP, if_neg hA]
  rw [hr]
  have HX := Aside0.mk (HW.out.alloc (.cells #[.int .i64 h0, .int .i64 h1, .int .i64 h2, .int .i64 h3, .slice A4 L.length c4] 41 (0, 0)))
  clear hr hd hA
  go_enter Try.func36, Try.ntmps36
  go_wp2_with (go_at_call 35; refine (must_no6 b 0 _ ((blk_cell HX.out.box 2).trans rfl) (blk_frozen HX.out.box 2)).mono ?_; rintro e w' ⟨⟨u, pv, rfl⟩, hb⟩; have HB := Aside0.mk hb; clear hb)
  exact ⟨rfl, ⟨_, _, rfl⟩, _, _, _, (HX.out.err 6).below HB.out⟩
end Go.Proofs.Ytoaijganmfijmaa.Pr
-- shrunk
/-
apply's all and Apply: hunks done to lines, and what is told if they can't be.
-/
namespace Go.Proofs.Ytoaijganmfijmaa.Pr
open Go.RowKit Go.Proofs.YtoaijganmfijmaaW.PrintWords Go.Proofs.YtoaijganmfijmaaW.PrintLast Go.Proofs.YtoaijganmfijmaaW.PrintMore
set_option linter.unusedVariables false
set_option linter.unusedSimpArgs false
theorem ABox.nil {w : World} {b : Nat} {v : Value} {done e : Int} {out : List ByteArray} {wr : World} (h : ABox w b v done e out wr) : ABox w b (.slice none 0 0) done e [] (wr.setCell ⟨b, 0, none⟩ (.slice none 0 0)) :=
 ⟨blk_put h.box 0 _ rfl, Kd.R_nil _ _ _ _ _, h.new_, (h.put 0 _).2⟩
theorem at_hkA {w : World} {A : Option Addr} {xs : List Hk} (h : Kd.C k41 w A xs.length xs) (i : Nat) (hi : i < xs.length) :
  ∃ ad A4 c4, A = some ad ∧ w.cell? (ad.add (i * 5)) = some (.int .i64 (xs[i]).f0) ∧ w.cell? ⟨(ad.add (i * 5)).block, (ad.add (i * 5)).off + 1, none⟩ = some (.int .i64 (xs[i]).f1) ∧
   w.cell? ⟨(ad.add (i * 5)).block, (ad.add (i * 5)).off + 2, none⟩ = some (.int .i64 (xs[i]).f2) ∧ w.cell? ⟨(ad.add (i * 5)).block, (ad.add (i * 5)).off + 3, none⟩ = some (.int .i64 (xs[i]).f3) ∧
   w.cell? ⟨(ad.add (i * 5)).block, (ad.add (i * 5)).off + 4, none⟩ = some (.slice A4 (xs[i]).f4.length c4) ∧ (xs[i]).f4.length ≤ c4 ∧ Kd.C Kd.string w A4 (xs[i]).f4.length (xs[i]).f4 := by
 have h2 := at_T41 h (i : Int) (by omega) (by omega)
 rw [rdH_at hi] at h2
 exact h2
theorem cutEndA (A : Option Addr) (c : Nat) (xs : List ByteArray) (lo : Nat) (h1 : lo ≤ xs.length) (hc : xs.length ≤ c) :
  ∃ A' : Option Addr, (∀ W : World, (Instr.slice 22 (.slice A xs.length c) (some (.int .i64 (lo : Int))) none none).run Try.prog W = .ok (.slice A' (xs.drop lo).length (c - lo)) W) ∧
   (∀ w : World, Kd.C Kd.string w A xs.length xs → Kd.C Kd.string w A' (xs.drop lo).length (xs.drop lo)) ∧ (xs.drop lo).length ≤ c - lo := by
 obtain ⟨i0, hi0, hz⟩ := Option.map_eq_some_iff.1 ginfoStrA
 simp only [Prod.mk.injEq] at hz
 refine ⟨_, fun W => ?_, fun w h => Kd.C_drop (c := c) h h1 hc, by rw [List.length_drop]; omega⟩
 have h := cut_from (P := Try.prog) 22 9 .i64 Try.underlying22 hi0 1 hz.2.1 A xs.length c (lo : Int) (Int.natCast_nonneg _) (by omega) W
 rw [Int.toNat_natCast] at h
 rw [h, List.length_drop]
 rfl
def gall_7.T7 : Bool × List (List Nat × List Nat) := (true, [([], []), ([], []), ([1], [1]), ([2], [2]), ([3], [3]), ([], []), ([], []), ([6], [6]), ([7], [7]), ([8], [8]), ([5, 9], [5, 9]), ([4, 10], [4, 10]), ([0, 0, 1, 2, 3, 4, 5, 6, 7, 8, 9, 10, 11], [0]), ([12, 0, 1, 2, 3, 4, 5, 6, 7, 8, 9, 10, 11], [12]), ([13, 11, 11, 0, 1, 2, 3, 4, 5, 6, 7, 8, 9, 10, 11], [11, 13])])
def gall_7.B7 : List Nat := [0, 0, 2, 6, 14, 0, 0, 64, 192, 448, 992, 2046, 4095, 8191, 16383]
theorem gall_7.tab7 : rtab .any (opsOf Try.f23 7) = gall_7.T7 := by kernel_rfl
theorem gall_7.bits7 : waitsOk gall_7.T7.2 gall_7.B7 = true := by kernel_rfl
set_option maxRecDepth 100000 in
set_option maxHeartbeats 40000000 in
theorem all_calls (w : World) (b : Nat) (A0 : Option Addr) (c0 : Nat) (a : List ByteArray) (A1 : Option Addr) (c1 : Nat) (l : List Hk) (W : World)
  (hW : ABox w b (.slice none 0 0) 0 0 [] W) (hra : Kd.C Kd.string w A0 a.length a) (hca : a.length ≤ c0) (hrl : Kd.C k41 w A1 l.length l) (hcl : l.length ≤ c1) (hs : SmallA a l) :
  Calls Try.prog 23 #[.pointer (some ⟨b, 0, none⟩), .slice A0 a.length c0, .slice A1 l.length c1] W (fun e w' => e = .returned (.tuple #[]) ∧ ∃ v d, ABox w b v d (applyP a l).2 (applyP a l).1 w') := by
 have hu1 := Try.underlying41
 have hu2 := Try.underlying46
 have hmf : ∀ (fn : Fn) (first cap : Array Value) (w : World), (Instr.makeFunc fn first cap).run Try.prog w = .ok (.func fn first cap) w := fun _ _ _ _ => rfl
 obtain ⟨k, hk⟩ := (ARight_ev hs).rounds
 have hla : a.length ≤ 65536 := hs.1
 have hll : l.length ≤ 1024 := hs.2.1
 have HK := Aside0.mk hk
 have HS := Aside0.mk hs
 have HW := Aside0.mk hW
 have HRA := Aside0.mk hra
 have HCA := Aside0.mk hca
 have HRL := Aside0.mk hrl
 have HCL := Aside0.mk hcl
 clear hW hra hca hrl hcl hs hk
 cases hok : rightP 0 0 l with
 | false =>
  have HAP := Aside0.mk (show applyP a l = ([], 3) by rw [applyP, hok]; rfl)
  rw [HAP.out]
  rw [hok] at HK
  go_enter_defers Try.func23, Try.ntmps23
  go_wp2_with (first
   | (go_at_call 15; (with_reducible refine (apply_Right.calls k _ _ l false _ (Kd.C_below HRL.out HW.out.bel) HCL.out HK.out).mono ?_); rintro e w1 ⟨rfl, hb⟩; have HX := Aside0.mk (HW.out.below hb); clear hb)
   | (go_at_call 35; refine (must_no3 b 0 _ ((blk_cell HX.out.box 2).trans rfl) (blk_frozen HX.out.box 2)).mono ?_; rintro e w' ⟨⟨u, pv, rfl⟩, hb⟩; have HY := Aside0.mk ((HX.out.err 3).below hb); clear hb))
  refine leaves_cons (f := 34) (args := #[.pointer (some ⟨b, 0, none⟩)]) (by simp) (by simp [go_sem]) ?_
  refine (catch_panicking b _ u pv [] _ ((blk_cell HY.out.box 0).trans rfl) rfl (blk_frozen HY.out.box 0)).mono ?_
  rintro e u' w'' ⟨rfl, rfl, rfl⟩
  have HZ := HY.out.nil
  simp [Leaves, settle, results, Try.results23, go_sem]
  exact ⟨_, _, HZ⟩
 | true =>
  rw [hok] at HK
  obtain ⟨R, hR⟩ : ∃ R, R = applyP a l := ⟨_, rfl⟩
  have HAP := Aside0.mk (show R = (match allP a 0 [] l with | none => ([], 6) | some (o, d) => (o ++ a.drop d, 0)) by rw [hR, applyP, hok]; rfl)
  rw [← hR]
  have HOK := Aside0.mk hok
  clear hR hok
  go_enter_defers Try.func23, Try.ntmps23
  go_upto_block 0 with (first
   | (go_at_call 15; (with_reducible refine (apply_Right.calls k _ _ l true _ (Kd.C_below HRL.out HW.out.bel) HCL.out HK.out).mono ?_); rintro e w1 ⟨rfl, hb⟩; have HX := Aside0.mk (HW.out.below hb); clear hb)
   | (go_at_call 35; (with_reducible refine (must_yes _ _ _).mono ?_); rintro e w' ⟨rfl, rfl⟩))
  go_wp2_with (fail)
  go_loopg [15] l.length (fun kq v15 wr => ∃ (x d : Nat) (A3 : Option Addr) (c3 : Nat) (o : List ByteArray), v15 = .int .i64 (x : Int) ∧ Aside0 (x ≤ l.length ∧ l.length ≤ kq + x ∧ d ≤ a.length ∧ o.length ≤ x * 131072) ∧ Aside0 (allP a d o (l.drop x) = allP a 0 [] l) ∧ Aside0 (∃ more, rightP (d : Int) more (l.drop x) = true) ∧ Aside0 (ABox w b (.slice A3 o.length c3) (d : Int) 0 o wr))
  case atStart => exact ⟨0, 0, none, 0, [], rfl, ⟨Nat.zero_le _, by omega, Nat.zero_le _, by simp⟩, ⟨rfl⟩, ⟨0, HOK.out⟩, HX⟩
  case round =>
   clear HX HOK
   obtain ⟨x, d, A3, c3, o, rfl, HB, HQ, HR, HX⟩ := hrel
   by_cases hend : x = l.length
   ·as_aux_lemma =>
    have f2 : decide (x < l.length) = false := decide_eq_false (by omega)
    have HR2 := Aside0.mk (show R = (o ++ a.drop d, 0) by rw [HAP.out, ← HQ.out, List.drop_of_length_le (by omega)]; rfl)
    have hol : o.length ≤ 134217728 := by have := HB.out; omega
    have hda : d ≤ a.length := HB.out.2.2.1
    obtain ⟨A2, hs1, hC1, hl1⟩ := cutEndA A0 c0 a d hda HCA.out
    obtain ⟨y, hy⟩ : ∃ y, y = a.drop d := ⟨_, rfl⟩
    have hyl : y.length ≤ 65536 := by rw [hy, List.length_drop]; omega
    rw [← hy] at hs1 hC1 hl1 HR2
    obtain ⟨o1, ho1⟩ : ∃ o1, o1 = o ++ y := ⟨_, rfl⟩
    rw [← ho1] at HR2
    have HO1 := Aside0.mk ho1
    have HC1 := Aside0.mk hC1
    clear hend hy hC1 hl1 ho1
    go_wp2_with (fail)
    refine wp_region_noPanic ?_
    have HX3 := Aside0.mk HX.out.drew
    have hz0 : wr.drew.cell? ⟨b, 0, none⟩ = some (.slice A3 o.length c3) := (blk_cell HX3.out.box 0).trans rfl
    have hz1 : wr.drew.cell? ⟨b, 1, none⟩ = some (.int .i64 (d : Int)) := (blk_cell HX3.out.box 1).trans rfl
    have hz2 := blk_frozen HX3.out.box 0
    refine start_ (n := 15) (S := fun w' => w'.cell? ⟨b, 0, none⟩ = some (.slice A3 o.length c3) ∧ w'.cell? ⟨b, 1, none⟩ = some (.int .i64 (d : Int))) (ds := [14]) #[false, false, false, false, false, false, false, false, false, false, false, false, false, false, false] (by kernel_rfl) rfl rfl ⟨hz0, hz1⟩ (fun hHeld => ?_)
    refine with_tabW gall_7.tab7 gall_7.bits7 (fun HT_ HW_ => ?_)
    generalize wr.drew = W2 at HX3 hz0 hz1 hz2 hHeld ⊢
    refine pure_ (i := 0) (N := some 24) (v := ?_) (a' := ?_) #[true, false, false, false, false, false, false, false, false, false, false, false, false, false, false] rfl rfl (any_of HT_.out (by kernel_rfl)) (fun _ _ _ h => h) (Or.inl ⟨by rfl, ?_⟩) ?_ ?_
    rotate_left
    ·intro w'
     go_simp
     with_reducible rfl
    rotate_left
    ·simp only [Act.put, List.setIfInBounds_toArray, List.set_cons_zero, List.set_cons_succ, i64_w, i32_w]
     rfl
    refine pure_ (i := 1) (N := some 25) (v := ?_) (a' := ?_) #[true, true, false, false, false, false, false, false, false, false, false, false, false, false, false] rfl rfl (any_of HT_.out (by kernel_rfl)) (fun _ _ _ h => h) (Or.inl ⟨by rfl, ?_⟩) ?_ ?_
    rotate_left
    ·intro w'
     go_simp
     with_reducible rfl
    rotate_left
    ·simp only [Act.put, List.setIfInBounds_toArray, List.set_cons_zero, List.set_cons_succ, i64_w, i32_w]
     rfl
    refine pure_ (i := 2) (N := some 26) (v := ?_) (a' := ?_) #[true, true, true, false, false, false, false, false, false, false, false, false, false, false, false] rfl rfl (any_of HT_.out (by kernel_rfl)) (fun _ _ _ h => h) (Or.inl ⟨by rfl, ?_⟩) ?_ ?_
    rotate_left
    ·intro w'
     go_simp
     with_reducible rfl
    rotate_left
    ·simp only [Act.put, List.setIfInBounds_toArray, List.set_cons_zero, List.set_cons_succ, i64_w, i32_w]
     rfl
    refine pure_ (i := 3) (N := some 27) (v := ?_) (a' := ?_) #[true, true, true, true, false, false, false, false, false, false, false, false, false, false, false] rfl rfl (any_of HT_.out (by kernel_rfl)) (fun _ _ _ h => h) (Or.inl ⟨by rfl, ?_⟩) ?_ ?_
    rotate_left
    ·intro w'
     go_simp
     with_reducible rfl
    rotate_left
    ·simp only [Act.put, List.setIfInBounds_toArray, List.set_cons_zero, List.set_cons_succ, i64_w, i32_w]
     rfl
    refine pure_ (i := 5) (N := some 29) (v := ?_) (a' := ?_) #[true, true, true, true, false, true, false, false, false, false, false, false, false, false, false] rfl rfl (any_of HT_.out (by kernel_rfl)) (fun _ _ _ h => h) (Or.inl ⟨by rfl, ?_⟩) ?_ ?_
    rotate_left
    ·intro w'
     go_simp
     with_reducible rfl
    rotate_left
    ·simp only [Act.put, List.setIfInBounds_toArray, List.set_cons_zero, List.set_cons_succ, i64_w, i32_w]
     rfl
    refine pure_ (i := 6) (N := some 30) (v := ?_) (a' := ?_) #[true, true, true, true, false, true, true, false, false, false, false, false, false, false, false] rfl rfl (any_of HT_.out (by kernel_rfl)) (fun _ _ _ h => h) (Or.inl ⟨by rfl, ?_⟩) ?_ ?_
    rotate_left
    ·intro w'
     go_simp
     with_reducible rfl
    rotate_left
    ·simp only [Act.put, List.setIfInBounds_toArray, List.set_cons_zero, List.set_cons_succ, i64_w, i32_w]
     rfl
    refine pure_ (i := 7) (N := some 31) (v := ?_) (a' := ?_) #[true, true, true, true, false, true, true, true, false, false, false, false, false, false, false] rfl rfl (any_of HT_.out (by kernel_rfl)) (fun _ _ _ h => h) (Or.inl ⟨by rfl, ?_⟩) ?_ ?_
    rotate_left
    ·intro w'
     go_simp
     with_reducible rfl
    rotate_left
    ·simp only [Act.put, List.setIfInBounds_toArray, List.set_cons_zero, List.set_cons_succ, i64_w, i32_w]
     rfl
    refine pure_ (i := 8) (N := some 32) (v := ?_) (a' := ?_) #[true, true, true, true, false, true, true, true, true, false, false, false, false, false, false] rfl rfl (any_of HT_.out (by kernel_rfl)) (fun _ _ _ h => h) (Or.inl ⟨by rfl, ?_⟩) ?_ ?_
    rotate_left
    ·intro w'
     go_simp
     with_reducible rfl
    rotate_left
    ·simp only [Act.put, List.setIfInBounds_toArray, List.set_cons_zero, List.set_cons_succ, i64_w, i32_w]
     rfl
    refine take_ (i := 4) (N := some 28) (v := ?_) (a' := ?_) #[true, true, true, true, true, true, true, true, true, false, false, false, false, false, false] rfl rfl (take_ofW HT_.out HW_.out (by kernel_rfl)) (fun _ _ _ h => h) (Or.inl ⟨by rfl, ?_⟩) hHeld ?_ ?_
    rotate_left
    ·rintro w' ⟨s0, s1⟩
     go_simp
     with_reducible rfl
    rotate_left
    ·simp only [Act.put, List.setIfInBounds_toArray, List.set_cons_zero, List.set_cons_succ, i64_w, i32_w]
     rfl
    refine take_ (i := 9) (N := some 33) (v := ?_) (a' := ?_) #[true, true, true, true, true, true, true, true, true, true, false, false, false, false, false] rfl rfl (take_ofW HT_.out HW_.out (by kernel_rfl)) (fun _ _ _ h => h) (Or.inl ⟨by rfl, ?_⟩) hHeld ?_ ?_
    rotate_left
    ·rintro w' ⟨s0, s1⟩
     go_simp
     with_reducible rfl
    rotate_left
    ·simp only [Act.put, List.setIfInBounds_toArray, List.set_cons_zero, List.set_cons_succ, i64_w, i32_w]
     rfl
    refine pure_ (i := 10) (N := some 34) (v := ?_) (a' := ?_) #[true, true, true, true, true, true, true, true, true, true, true, false, false, false, false] rfl rfl (any_of HT_.out (by kernel_rfl)) (fun _ _ _ h => h) (Or.inl ⟨by rfl, ?_⟩) ?_ ?_
    rotate_left
    ·intro w'
     go_simp
     with_reducible rfl
    rotate_left
    ·simp only [Act.put, List.setIfInBounds_toArray, List.set_cons_zero, List.set_cons_succ, i64_w, i32_w]
     rfl
    refine one_ (i := 11) (N := some 35) #[true, true, true, true, true, true, true, true, true, true, true, true, false, false, false] rfl rfl (one_of HT_.out (by kernel_rfl)) (by decide) (fun K hK => ?_)
    refine Kd.R_append_rows_step Kd.string (w0 := w) w.heap.size (by rfl) (.tmp 28) (.tmp 34) 22 9 (.string ⟨#[]⟩) 16 rfl Try.underlying22 ginfoStrA rfl (by decide) (by omega) (.slice A3 o.length c3) o y _ _ _ (fun _ => True) (fun _ => False) rfl rfl HX3.out.row (HC1.out _ (Kd.C_below HRA.out HX3.out.bel)) (fun _ _ h => h) (fun _ h => h.elim) (fun _ _ => trivial) HX3.out.bel HX3.out.bel.size (by omega) ?_
    intro v2 w3 ho hb hg2 hat
    rw [← HO1.out] at ho
    obtain ⟨A5, c5, e5⟩ := Kd.R_slice ho
    subst e5
    obtain ⟨hbx, hab⟩ := HX3.out.step hg2 ho hb
    have hk0 := (blk_cell hbx 0).trans rfl
    have hk1 := (blk_cell hbx 1).trans rfl
    have hkf := blk_frozen hbx 0
    have HX5 := Aside0.mk hab
    clear ho hb hg2 hat hbx hab hz0 hz1
    refine hK.out _ _ ⟨hk0, hk1⟩ (fun hHeld => ?_)
    clear hK K
    refine norm_ (a' := ?_) ?_ ?_
    rotate_left
    ·show Act.put _ (some 35) _ = _
     simp only [Act.put, List.setIfInBounds_toArray, List.set_cons_zero, List.set_cons_succ, i64_w, i32_w]
     rfl
    refine pure_ (i := 12) (N := some 36) (v := ?_) (a' := ?_) #[true, true, true, true, true, true, true, true, true, true, true, true, true, false, false] rfl rfl (any_of HT_.out (by kernel_rfl)) (fun _ _ _ h => h) (Or.inl ⟨by rfl, ?_⟩) ?_ ?_
    rotate_left
    ·intro w'
     go_simp
     with_reducible rfl
    rotate_left
    ·simp only [Act.put, List.setIfInBounds_toArray, List.set_cons_zero, List.set_cons_succ, i64_w, i32_w]
     rfl
    refine pure_ (i := 13) (N := some 37) (v := ?_) (a' := ?_) #[true, true, true, true, true, true, true, true, true, true, true, true, true, true, false] rfl rfl (any_of HT_.out (by kernel_rfl)) (fun _ _ _ h => h) (Or.inl ⟨by rfl, ?_⟩) ?_ ?_
    rotate_left
    ·intro w'
     go_simp
     with_reducible rfl
    rotate_left
    ·simp only [Act.put, List.setIfInBounds_toArray, List.set_cons_zero, List.set_cons_succ, i64_w, i32_w]
     rfl
    refine last_ (i := 14) (N := none) #[true, true, true, true, true, true, true, true, true, true, true, true, true, true, true] rfl rfl (one_of HT_.out (by kernel_rfl)) (by decide) (fun K hK => ?_)
    refine skip_ (w1 := ?_) (by rfl) rfl ?_ ?_
    rotate_left
    ·go_simp
     rfl
    refine hK.out _ _ ?_
    clear hK K
    refine done_ (done_of HT_.out (by kernel_rfl)) ?_

    change NoPanic _ _ _ (w3.setCell ⟨b, 0, none⟩ (.slice A5 o1.length c5))
    generalize w3.setCell ⟨b, 0, none⟩ (.slice A5 o1.length c5) = w4 at HX5 ⊢
    refine leaves_cons (f := 34) (args := #[.pointer (some ⟨b, 0, none⟩)]) (by simp) (by simp [go_sem]) ?_
    refine (catch_idle _ _).mono ?_
    rintro e u' w'' ⟨rfl, rfl, rfl⟩
    simp [Leaves, settle, results, Try.results23, go_sem]
    rw [HR2.out]
    exact ⟨_, _, HX5.out⟩
   ·as_aux_lemma =>
    have hxl : x < l.length := by have := HB.out; omega
    obtain ⟨gk', HG⟩ : ∃ m, Aside0 (gk = m + 1) := ⟨gk - 1, ⟨by have := HB.out; omega⟩⟩
    have f2 : decide (x < l.length) = true := decide_eq_true hxl
    obtain ⟨ad, A4, c4, ea, hw0, hw1, hw2, hw3, hw4, hl4, hi4⟩ := at_hkA HRL.out x hxl
    cases ea
    obtain ⟨h, hh⟩ : ∃ h, h = l[x] := ⟨_, rfl⟩
    rw [← hh] at hw0 hw1 hw2 hw3 hw4 hl4 hi4
    have HSL := Aside0.mk (show l.drop x = h :: l.drop (x + 1) by rw [hh]; exact List.drop_eq_getElem_cons hxl)
    have hsm := HS.out.2.2 h (by rw [hh]; exact List.getElem_mem hxl)
    obtain ⟨more, hrp⟩ := HR.out
    rw [HSL.out, rightP, Bool.and_eq_true, Bool.and_eq_true, Bool.and_eq_true, decide_eq_true_eq] at hrp
    obtain ⟨⟨⟨hr1, hr2⟩, hr3⟩, hr4⟩ := hrp
    have HR1 := Aside0.mk hr1
    have HR4 := Aside0.mk hr4
    have HRS := Aside0.mk (rightL_size hr1)
    replace hw0 := pw_cell_below HX.out.bel hw0
    replace hw1 := pw_cell_below HX.out.bel hw1
    replace hw2 := pw_cell_below HX.out.bel hw2
    replace hw3 := pw_cell_below HX.out.bel hw3
    replace hw4 := pw_cell_below HX.out.bel hw4
    have HC4 := Aside0.mk hl4
    have HI4 := Aside0.mk hi4
    have HSM := Aside0.mk hsm
    have HD := Aside0.mk hr2
    have HXL := Aside0.mk hxl
    have kx : IntKind.i64.wrap ((x : Int) + 1) = (x : Int) + 1 := IntWalk.i64_in _ (by omega)
    clear hh hend hsm hr1 hr2 hr3 hr4 hl4 hi4
    cases h1 : oneP a d h.f0 h.f4 o with
    | none =>
     have H1 := Aside0.mk h1
     have HR2 := Aside0.mk (show R = ([], 6) by rw [HAP.out, ← HQ.out, HSL.out, allP, h1])
     clear h1
     go_wp2_with (go_at_call 36; refine (one_calls w b A0 c0 a h.f0 h.f1 h.f2 h.f3 A4 c4 h.f4 (.slice A3 o.length c3) d o _ ?hW HRA.out HCA.out HI4.out HC4.out HD.out HB.out.2.2.1 HRS.out.1 (by omega) (by have := HSM.out; omega) (by have := HB.out; omega)).mono ?_; (case hW => exact HX.out.alloc _); rintro e w' hE; rw [H1.out] at hE; obtain ⟨⟨u, pv, rfl⟩, v2, d2, o2, hY⟩ := hE; have HY := Aside0.mk hY; clear hY)
     obtain ⟨A6, c6, e6⟩ := Kd.R_slice HY.out.row
     subst e6
     refine leaves_cons (f := 34) (args := #[.pointer (some ⟨b, 0, none⟩)]) (by simp) (by simp [go_sem]) ?_
     refine (catch_panicking b _ u pv [] _ ((blk_cell HY.out.box 0).trans rfl) rfl (blk_frozen HY.out.box 0)).mono ?_
     rintro e u' w'' ⟨rfl, rfl, rfl⟩
     have HZ := HY.out.nil
     simp [Leaves, settle, results, Try.results23, go_sem]
     rw [HR2.out]
     exact ⟨_, _, HZ⟩
    | some q =>
     obtain ⟨o2, d2⟩ := q
     have hp := oneP_some HR1.out h1
     have H1 := Aside0.mk h1
     have HP := Aside0.mk hp
     have HQ2 := Aside0.mk (show allP a d2 o2 (l.drop (x + 1)) = allP a 0 [] l by rw [← HQ.out, HSL.out, allP, h1])
     clear h1 hp
     go_wp2_with (go_at_call 36; refine (one_calls w b A0 c0 a h.f0 h.f1 h.f2 h.f3 A4 c4 h.f4 (.slice A3 o.length c3) d o _ ?hW HRA.out HCA.out HI4.out HC4.out HD.out HB.out.2.2.1 HRS.out.1 (by omega) (by have := HSM.out; omega) (by have := HB.out; omega)).mono ?_; (case hW => exact HX.out.alloc _); rintro e w' hE; rw [H1.out] at hE; obtain ⟨rfl, v2, hY⟩ := hE; have HY := Aside0.mk hY; clear hY)
     go_roundg gk'
     case measure => have := HG.out; omega
     case rel =>
      clear kx
      obtain ⟨A6, c6, e6⟩ := Kd.R_slice HY.out.row
      subst e6
      have := HP.out
      exact ⟨x + 1, d2, A6, c6, o2, by go_num, ⟨by have := HB.out; have := HG.out; have := HXL.out; have := HSM.out; omega⟩, HQ2, ⟨_, by rw [this.1]; exact HR4.out⟩, HY⟩
end Go.Proofs.Ytoaijganmfijmaa.Pr
-- shrunk
/-
package apply's Apply: what hunks make of lines.
-/
namespace Go.Proofs.Ytoaijganmfijmaa.Pr
open Go.RowKit Go.Proofs.YtoaijganmfijmaaW.PrintWords Go.Proofs.YtoaijganmfijmaaW.PrintLast Go.Proofs.YtoaijganmfijmaaW.PrintMore
set_option linter.unusedVariables false
set_option linter.unusedSimpArgs false
def apply_Apply.f (l0 : List ByteArray) (l1 : List Hk) : Option (List ByteArray × Int) := if SmallA l0 l1 then some (applyP l0 l1) else none
set_option maxRecDepth 100000 in
set_option maxHeartbeats 4000000 in
theorem apply_Apply.calls (A0 : Option Addr) (c0 : Nat) (l0 : List ByteArray) (A1 : Option Addr) (c1 : Nat) (l1 : List Hk) (r1 : List ByteArray) (r2 : Int) (w : World) (hr0 : Kd.C Kd.string w A0 l0.length l0) (hc0 : l0.length ≤ c0) (hr1 : Kd.C k41 w A1 l1.length l1) (hc1 : l1.length ≤ c1) (h : apply_Apply.f l0 l1 = some (r1, r2)) :
  Calls Try.prog 12 #[.slice A0 l0.length c0, .slice A1 l1.length c1] w fun e w' => ∃ v0_ : Value, e = .returned (.tuple #[v0_, .int .i64 r2]) ∧ Kd.R Kd.string 9 w' w.heap.size (fun _ => True) v0_ r1 ∧ Below w.heap.size w w' := by
 have hu1 := Try.underlying41
 have hu2 := Try.underlying46
 unfold apply_Apply.f at h
 by_cases hs : SmallA l0 l1
 ·rw [if_pos hs] at h
  have hap := Option.some.inj h
  have HR0 := Aside0.mk hr0
  have HC0 := Aside0.mk hc0
  have HR1 := Aside0.mk hr1
  have HC1 := Aside0.mk hc1
  have HS := Aside0.mk hs
  have HX := Aside0.mk (show ABox w w.heap.size (.slice none 0 0) 0 0 [] (w.alloc (.cells #[.slice none 0 0, .int .i64 0, .int .i64 0] 46 (0, 0))) from ⟨blk_new w _, Kd.R_nil _ _ _ _ _, Nat.le_refl _, below_alloc (Below.refl _ _) _⟩)
  obtain ⟨b, hb⟩ : ∃ b, b = w.heap.size := ⟨_, rfl⟩
  have HBN := Aside0.mk hb
  have H := Aside0.mk hap
  clear h hap hr0 hc0 hr1 hc1 hs
  go_enter Try.func12, Try.ntmps12
  go_upto_region 3 with (go_at_call 23; refine (all_calls w w.heap.size A0 c0 l0 A1 c1 l1 _ HX.out HR0.out HC0.out HR1.out HC1.out HS.out).mono ?_; rintro e w' ⟨rfl, v, d, hY⟩; rw [H.out] at hY; have HY := Aside0.mk hY; clear hY)
  have hz0 := (blk_cell HY.out.box 0).trans rfl
  have hz2 := (blk_cell HY.out.box 2).trans rfl
  repeat (go_quiet (fail); try go_wp2)
  go_ret2
  refine ⟨_, rfl, ?_⟩
  have HZ := fun n => HY.out.below (w1 := w'.drewN n) (pw_below_drewN (Below.refl _ _) n)
  exact ⟨(HZ _).row, (HZ _).bel⟩
 ·rw [if_neg hs] at h; cases h
end Go.Proofs.Ytoaijganmfijmaa.Pr
-- shrunk
/-
A list of edits of the call's own, of which the last one is changed: what is known of memory then.
-/
namespace Go.Proofs.Ytoaijganmfijmaa.Pr
open Go.RowKit Go.Proofs.YtoaijganmfijmaaW.PrintWords Go.Proofs.YtoaijganmfijmaaW.PrintLast Go.Proofs.YtoaijganmfijmaaW.PrintMore
set_option linter.unusedVariables false
set_option linter.unusedSimpArgs false
theorem edLast_eq (out : List Ed) (j : Int) (hj : j.toNat = out.length - 1) : out.getD j.toNat z53 = edLast out := by rw [hj]; rfl
theorem own_del {W : World} {base g cap : Nat} {out : List Ed} {j : Int} (hS : Kd.S k53 53 W base (fun _ => True) (.slice (some ⟨g, 0, none⟩) out.length cap) out) (hne : out ≠ []) (h0 : 0 ≤ j) (hj : j.toNat = out.length - 1) :
  W.cell? ⟨g, j.toNat * 3 + 1, none⟩ = some (.int .i64 (edLast out).f1) ∧ W.frozen? ⟨g, j.toNat * 3 + 1, none⟩ = false ∧
   Kd.S k53 53 (W.setCell ⟨g, j.toNat * 3 + 1, none⟩ (.int .i64 ((edLast out).f1 + 1))) base (fun _ => True) (.slice (some ⟨g, 0, none⟩) out.length cap) (addDel out) ∧
   W.grownBy (W.setCell ⟨g, j.toNat * 3 + 1, none⟩ (.int .i64 ((edLast out).f1 + 1))) (some g) := by
 have hl : 0 < out.length := List.length_pos_iff.2 hne
 have h1 : j < (out.length : Int) := by omega
 have hS' : Kd.S k53 53 W base (fun k => True ∧ ¬ False) (.slice (some ⟨g, 0, none⟩) out.length cap) out := Kd.S_mono hS (fun _ _ => ⟨trivial, id⟩)
 obtain ⟨oki, c, hcl, hM, hcc, hfr, hoki, hH⟩ := Kd.S_elem hS' z53 j h0 h1
 rw [edLast_eq out j hj] at hM
 obtain ⟨vi, rfl, hvi⟩ := k53_openM hM
 have hc1 := hcc 1 _ rfl
 obtain ⟨h2, h3⟩ := Kd.S_seg (okg := fun _ => False) hH h0 h1 (seg := [.int .i64 ((edLast out).f1 + 1)]) (j := 1) (show 1 + 1 ≤ 3 by decide) (x' := ⟨(edLast out).f0, (edLast out).f1 + 1, (edLast out).f2⟩)
  (k53_mkM W base oki ⟨(edLast out).f0, (edLast out).f1 + 1, (edLast out).f2⟩ hvi) (fun k hk => .inl hk) (fun k hk => hk.elim)
 exact ⟨hc1, hfr 1, by unfold addDel; rw [← hj]; exact Kd.S_mono h2 (fun _ _ => trivial), h3⟩
theorem own_ins {W : World} {base g cap : Nat} {out : List Ed} {j : Int} (s : ByteArray) (hS : Kd.S k53 53 W base (fun _ => True) (.slice (some ⟨g, 0, none⟩) out.length cap) out) (hne : out ≠ []) (h0 : 0 ≤ j) (hj : j.toNat = out.length - 1) :
  ∃ (vi : Value) (Ai : Option Addr) (ci : Nat) (oki : Nat → Prop), vi = .slice Ai (edLast out).f2.length ci ∧ W.cell? ⟨g, j.toNat * 3 + 2, none⟩ = some vi ∧ Kd.R Kd.string 9 W base oki vi (edLast out).f2 ∧ (∀ k, W.heap.size ≤ k → oki k) ∧ (∀ k, vi.ownBlock = some k → k ≠ g) ∧
   ∀ (W2 w1 : World) (v1 : Value), Below W.heap.size W W2 → W2.grownBy w1 vi.ownBlock → Kd.R Kd.string 9 w1 base oki v1 ((edLast out).f2 ++ [s]) →
    w1.cell? ⟨g, j.toNat * 3 + 2, none⟩ = some vi ∧ w1.frozen? ⟨g, j.toNat * 3 + 2, none⟩ = false ∧
    Kd.S k53 53 (w1.setCell ⟨g, j.toNat * 3 + 2, none⟩ v1) base (fun _ => True) (.slice (some ⟨g, 0, none⟩) out.length cap) (addIns s out) ∧ w1.grownBy (w1.setCell ⟨g, j.toNat * 3 + 2, none⟩ v1) (some g) ∧ (∃ cells, w1.heap[g]? = some (.cells cells 53 (0, 0))) := by
 have hl : 0 < out.length := List.length_pos_iff.2 hne
 have h1 : j < (out.length : Int) := by omega
 obtain ⟨oki, c, hcl, hM, hcc, hfr, hoki, hH⟩ := Kd.S_elem hS z53 j h0 h1
 rw [edLast_eq out j hj] at hM
 obtain ⟨vi, rfl, hvi⟩ := k53_openM hM
 have hc2 := hcc 2 _ rfl
 obtain ⟨g', cap', e', _, hlt, cells0, hg0⟩ := Kd.S_form hS hl
 have hgg : g' = g := by injection e' with e' _ _; injection e' with e'; injection e' with e'; exact e'.symm
 subst hgg
 have hH2 := Kd.H_widen hH
 have hvi2 : Kd.R Kd.string 9 W base (fun k => oki k ∨ True ∧ W.heap.size ≤ k) vi (edLast out).f2 := Kd.R_mono hvi (fun k hk => .inl hk)
 obtain ⟨Ai, ci, evi⟩ := Kd.R_slice hvi
 refine ⟨vi, Ai, ci, fun k => oki k ∨ True ∧ W.heap.size ≤ k, evi, hc2, hvi2, fun k hk => .inr ⟨trivial, hk⟩, fun k hk => (hoki k (hvi.1 k hk)).2, fun W2 w1 v1 hb hg hR => ?_⟩
 have hne2 : ∀ k, vi.ownBlock = some k → k ≠ g' := fun k hk => (hoki k (hvi.1 k hk)).2
 have hgb : ¬ vi.ownBlock = some g' := fun h => hne2 _ h rfl
 have hlt2 : g' < W2.heap.size := Nat.lt_of_lt_of_le hlt hb.size
 have hcell : w1.heap[g']? = W.heap[g']? := (hg.block g' hlt2 (fun e => hgb e.symm)).trans (hb.block g' hlt)
 have hH3 := Kd.H_grown (Kd.H_below hH2 hb) hg (fun k hk => .inl (hvi.1 k hk))
 obtain ⟨h4, h5⟩ := Kd.H_seg hH3 h0 h1 (seg := [v1]) (j := 2) (show 2 + 1 ≤ 3 by decide) (by intro q hq; simp at hq; subst hq; exact (Kd.R_val hR).2)
 have hokne : ∀ k, (oki k ∨ True ∧ W.heap.size ≤ k) → k ≠ g' := by
  rintro k (hk | hk)
  ·exact (hoki k hk).2
  ·omega
 refine ⟨by rw [← hc2]; exact World.cell?_of_block hcell, by rw [← hfr 2]; exact World.frozen?_of_block hcell, ?_, h5, ⟨cells0, hcell.trans hg0⟩⟩
 unfold addIns
 rw [← hj]
 refine Kd.H_back h4 (okp := fun k => oki k ∨ True ∧ W.heap.size ≤ k) ?_ (fun _ hk => hk)
 exact k53_mkM _ base _ ⟨(edLast out).f0, (edLast out).f1, (edLast out).f2 ++ [s]⟩ (Kd.R_far hR (p := ⟨g', j.toNat * 3 + 2, none⟩) hokne v1)
end Go.Proofs.Ytoaijganmfijmaa.Pr
-- shrunk
