-- written by a program of this session's (a turned copy of the kit's printer); Lean checks it
import Derived.Test.YtlabiajcohmjhaaD0
import Derived.Test.YtlabiajcohmjhaaD7b
namespace Go.Proofs.Ytlabiajcohmjhaa.Pr
open Go.RowKit Go.Proofs.YtlabiajcohmjhaaW.PrintWords Go.Proofs.YtlabiajcohmjhaaW.PrintLast Go.Proofs.YtlabiajcohmjhaaW.PrintMore
attribute [local go_sem] max2_int min2_int max_two min_two max_three min_three max_four min_four   -- for this text's walks alone
set_option linter.unusedVariables false
set_option linter.unusedSimpArgs false

mutual
def grapevineref05_Right.l0 : Nat → Int → Int → Int → Int → Int → List ByteArray → Option (Bool)
 | 0, _, _, _, _, _, _ => none
 | k + 1, x3, x363000, x363001, x363002, x363003, x363004 => if x3 < (x363004.length : Int) then (if 0 ≤ x3 then (if ((rdOf ByteArray.empty x363004 x3).size : Int) = 0 then (some false) else (if 0 < ((rdOf ByteArray.empty x363004 x3).size : Int) then (if (bt (rdOf ByteArray.empty x363004 x3) 0) = 32 then (grapevineref05_Right.j1 k x3 (rdOf ByteArray.empty x363004 x3) false x363000 x363001 x363002 x363003 x363004) else (if (bt (rdOf ByteArray.empty x363004 x3) 0) = 43 then (grapevineref05_Right.j1 k x3 (rdOf ByteArray.empty x363004 x3) false x363000 x363001 x363002 x363003 x363004) else (grapevineref05_Right.j1 k x3 (rdOf ByteArray.empty x363004 x3) ((bt (rdOf ByteArray.empty x363004 x3) 0) != 45) x363000 x363001 x363002 x363003 x363004))) else (none))) else (none)) else (if x363000 ≥ 0 then (if x363002 ≥ 0 then ((grapevineref05_Many.f k x363004 45).bind fun t363 => (if x363001 = t363 then ((grapevineref05_Many.f k x363004 43).bind fun t364 => (some (x363003 == t364))) else (some false))) else (some false)) else (some false))
def grapevineref05_Right.j1 : Nat → Int → ByteArray → Bool → Int → Int → Int → Int → List ByteArray → Option (Bool)
 | 0, _, _, _, _, _, _, _, _ => none
 | k + 1, x3, x4, x32, x363000, x363001, x363002, x363003, x363004 => if x32 = true then (some false) else (if x3 > 0 then (if 0 < (x4.size : Int) then (if (bt x4 0) = 45 then (if 0 ≤ (wrap64 (x3 - 1)) then (if (wrap64 (x3 - 1)) < (x363004.length : Int) then (if 0 < ((rdOf ByteArray.empty x363004 (wrap64 (x3 - 1))).size : Int) then (if (bt (rdOf ByteArray.empty x363004 (wrap64 (x3 - 1))) 0) = 43 then (some false) else (grapevineref05_Right.l0 k (wrap64 (x3 + 1)) x363000 x363001 x363002 x363003 x363004)) else (none)) else (none)) else (none)) else (grapevineref05_Right.l0 k (wrap64 (x3 + 1)) x363000 x363001 x363002 x363003 x363004)) else (none)) else (grapevineref05_Right.l0 k (wrap64 (x3 + 1)) x363000 x363001 x363002 x363003 x363004))
end
def grapevineref05_Right.f (k : Nat) (a0_0 : Int) (a0_1 : Int) (a0_2 : Int) (a0_3 : Int) (l0_4 : List ByteArray) : Option (Bool) := grapevineref05_Right.l0 k 0 a0_0 a0_1 a0_2 a0_3 l0_4
theorem grapevineref05_Right.mono_l : ∀ k, (∀ y0 y1 y2 y3 y4 y5, LeO (grapevineref05_Right.l0 k y0 y1 y2 y3 y4 y5) (grapevineref05_Right.l0 (k + 1) y0 y1 y2 y3 y4 y5)) ∧ (∀ y0 y1 y2 y3 y4 y5 y6 y7, LeO (grapevineref05_Right.j1 k y0 y1 y2 y3 y4 y5 y6 y7) (grapevineref05_Right.j1 (k + 1) y0 y1 y2 y3 y4 y5 y6 y7))
 | 0 => ⟨fun _ _ _ _ _ _ r h => by simp [grapevineref05_Right.l0] at h, fun _ _ _ _ _ _ _ _ r h => by simp [grapevineref05_Right.j1] at h⟩
 | k + 1 => by
  obtain ⟨ih0, ih1⟩ := grapevineref05_Right.mono_l k
  refine ⟨?_, ?_⟩
  ·intro y0 y1 y2 y3 y4 y5
   unfold grapevineref05_Right.l0
   repeat' first
   | (with_reducible exact ih0 _ _ _ _ _ _)
   | (with_reducible exact ih1 _ _ _ _ _ _ _ _)
   | (with_reducible exact grapevineref05_Many.mono _ _ _)
   | (with_reducible exact LeO.refl _)
   | (with_reducible exact LeO.none _)
   | (with_reducible refine LeO.ite ?_ ?_)
   | (with_reducible refine LeO.bind ?_ (fun _ => ?_))
   | exact ih0 _ _ _ _ _ _
   | exact ih1 _ _ _ _ _ _ _ _
   | exact grapevineref05_Many.mono _ _ _
   | exact LeO.none _
   | refine LeO.ite ?_ ?_
   | refine LeO.bind ?_ (fun _ => ?_)
  ·intro y0 y1 y2 y3 y4 y5 y6 y7
   unfold grapevineref05_Right.j1
   repeat' first
   | (with_reducible exact ih0 _ _ _ _ _ _)
   | (with_reducible exact ih1 _ _ _ _ _ _ _ _)
   | (with_reducible exact grapevineref05_Many.mono _ _ _)
   | (with_reducible exact LeO.refl _)
   | (with_reducible exact LeO.none _)
   | (with_reducible refine LeO.ite ?_ ?_)
   | (with_reducible refine LeO.bind ?_ (fun _ => ?_))
   | exact ih0 _ _ _ _ _ _
   | exact ih1 _ _ _ _ _ _ _ _
   | exact grapevineref05_Many.mono _ _ _
   | exact LeO.none _
   | refine LeO.ite ?_ ?_
   | refine LeO.bind ?_ (fun _ => ?_)
theorem grapevineref05_Right.mono : ∀ a0 a1 a2 a3 a4 k, LeO (grapevineref05_Right.f k a0 a1 a2 a3 a4) (grapevineref05_Right.f (k + 1) a0 a1 a2 a3 a4) := by
 intro a0 a1 a2 a3 a4 k
 obtain ⟨ih0, ih1⟩ := grapevineref05_Right.mono_l k
 unfold grapevineref05_Right.f
 repeat' first
   | (with_reducible exact ih0 _ _ _ _ _ _)
   | (with_reducible exact ih1 _ _ _ _ _ _ _ _)
   | (with_reducible exact grapevineref05_Many.mono _ _ _)
   | (with_reducible exact LeO.refl _)
   | (with_reducible exact LeO.none _)
   | (with_reducible refine LeO.ite ?_ ?_)
   | (with_reducible refine LeO.bind ?_ (fun _ => ?_))
   | exact ih0 _ _ _ _ _ _
   | exact ih1 _ _ _ _ _ _ _ _
   | exact grapevineref05_Many.mono _ _ _
   | exact LeO.none _
   | refine LeO.ite ?_ ?_
   | refine LeO.bind ?_ (fun _ => ?_)
set_option maxHeartbeats 8000000 in
set_option maxRecDepth 100000 in
theorem grapevineref05_Right.calls (k : Nat) (a0_0 : Int) (a0_1 : Int) (a0_2 : Int) (a0_3 : Int) (A0_4 : Option Addr) (c0_4 : Nat) (l0_4 : List ByteArray) (r : Bool) (w : World) (hr0_4 : Kd.C Kd.string w A0_4 l0_4.length l0_4) (hc0_4 : l0_4.length ≤ c0_4) (h : grapevineref05_Right.f k a0_0 a0_1 a0_2 a0_3 l0_4 = some r) :
  Calls Try.prog 15 #[.agg #[.int .i64 a0_0, .int .i64 a0_1, .int .i64 a0_2, .int .i64 a0_3, .slice A0_4 l0_4.length c0_4]] w fun e w' => e = .returned (.bool r) ∧ Below w.heap.size w w' := by
 have hu33 := Try.underlying33
 have HR0_4 := Aside0.mk hr0_4
 have HC0_4 := Aside0.mk hc0_4
 clear hr0_4 hc0_4
 have HB := Aside0.mk (Below.refl w.heap.size w)
 have H : (grapevineref05_Right.l0 k 0 a0_0 a0_1 a0_2 a0_3 l0_4) = some r := h
 clear h
 have H' := Aside0.mk H
 clear H
 go_enter Try.func15, Try.ntmps15
 go_wp2_with (first | ((with_reducible refine gate_dst (N := 1) rfl ?_); refine box_event ?hg (N := 1) ?hd (cs := #[.int .i64 a0_0, .int .i64 a0_1, .int .i64 a0_2, .int .i64 a0_3, .slice A0_4 l0_4.length c0_4]) (t := 33) ?hr ?_; (case hd => rfl); (case hg => rfl); (case hr => first | (go_simp; done) | (go_simp; rfl)); intro gb362 hg w2 hbox hb; have n0_ := Aside0.mk (below_step (by repeat (first | (with_reducible first | exact HB.out | apply below_alloc | apply pw_below_drewN | apply below_drew1) | exact HB.out)) hb); have n1_ := Aside0.mk (hbox); have n2_ := Aside0.mk ((by rw [hg]; exact (below_size (by repeat (first | (with_reducible first | exact HB.out | apply below_alloc | apply pw_below_drewN | apply below_drew1) | exact HB.out))) : w.heap.size ≤ gb362)); have n3_ := Aside0.mk ((by rw [hg]; exact (below_size (by repeat (first | (with_reducible first | exact HB.out | apply below_alloc | apply pw_below_drewN | apply below_drew1) | exact HB.out))) : w.heap.size ≤ gb362)); clear HB; have HB := n0_; have BK362 := n1_; have GW362 := n2_; have GE362 := n3_; clear n0_ n1_ n2_ n3_; clear hb hbox hg))
 repeat (go_quiet (first | ((with_reducible refine gate_dst (N := 1) rfl ?_); refine box_event ?hg (N := 1) ?hd (cs := #[.int .i64 a0_0, .int .i64 a0_1, .int .i64 a0_2, .int .i64 a0_3, .slice A0_4 l0_4.length c0_4]) (t := 33) ?hr ?_; (case hd => rfl); (case hg => rfl); (case hr => first | (go_simp; done) | (go_simp; rfl)); intro gb362 hg w2 hbox hb; have n0_ := Aside0.mk (below_step (by repeat (first | (with_reducible first | exact HB.out | apply below_alloc | apply pw_below_drewN | apply below_drew1) | exact HB.out)) hb); have n1_ := Aside0.mk (hbox); have n2_ := Aside0.mk ((by rw [hg]; exact (below_size (by repeat (first | (with_reducible first | exact HB.out | apply below_alloc | apply pw_below_drewN | apply below_drew1) | exact HB.out))) : w.heap.size ≤ gb362)); have n3_ := Aside0.mk ((by rw [hg]; exact (below_size (by repeat (first | (with_reducible first | exact HB.out | apply below_alloc | apply pw_below_drewN | apply below_drew1) | exact HB.out))) : w.heap.size ≤ gb362)); clear HB; have HB := n0_; have BK362 := n1_; have GW362 := n2_; have GE362 := n3_; clear n0_ n1_ n2_ n3_; clear hb hbox hg)); try go_wp2_with (first | ((with_reducible refine gate_dst (N := 1) rfl ?_); refine box_event ?hg (N := 1) ?hd (cs := #[.int .i64 a0_0, .int .i64 a0_1, .int .i64 a0_2, .int .i64 a0_3, .slice A0_4 l0_4.length c0_4]) (t := 33) ?hr ?_; (case hd => rfl); (case hg => rfl); (case hr => first | (go_simp; done) | (go_simp; rfl)); intro gb362 hg w2 hbox hb; have n0_ := Aside0.mk (below_step (by repeat (first | (with_reducible first | exact HB.out | apply below_alloc | apply pw_below_drewN | apply below_drew1) | exact HB.out)) hb); have n1_ := Aside0.mk (hbox); have n2_ := Aside0.mk ((by rw [hg]; exact (below_size (by repeat (first | (with_reducible first | exact HB.out | apply below_alloc | apply pw_below_drewN | apply below_drew1) | exact HB.out))) : w.heap.size ≤ gb362)); have n3_ := Aside0.mk ((by rw [hg]; exact (below_size (by repeat (first | (with_reducible first | exact HB.out | apply below_alloc | apply pw_below_drewN | apply below_drew1) | exact HB.out))) : w.heap.size ≤ gb362)); clear HB; have HB := n0_; have BK362 := n1_; have GW362 := n2_; have GE362 := n3_; clear n0_ n1_ n2_ n3_; clear hb hbox hg)))
 go_loopg [3] k (fun kq v3 w' => ∃ (x3_1 : Int), v3 = .int .i64 x3_1 ∧ Aside0 (grapevineref05_Right.l0 kq x3_1 a0_0 a0_1 a0_2 a0_3 l0_4 = some r) ∧ Aside0 (kq ≤ k) ∧ Aside0 (w'.heap[gb362]? = some (.cells #[.int .i64 a0_0, .int .i64 a0_1, .int .i64 a0_2, .int .i64 a0_3, (.slice A0_4 l0_4.length c0_4)] 33 (0, 0))) ∧ Aside0 (Below w.heap.size w w'))
 case atStart => exact ⟨(0), (by first | rfl | (simp; done) | (simp [*]; done)), H', ⟨Nat.le_refl _⟩, ⟨by (with_reducible repeat (first | refine blk_drewN ?_ _ | refine blk_drew ?_ | refine blk_alloc ?_ _)); exact BK362.out⟩, ⟨by repeat (first | (with_reducible first | exact HB.out | apply below_alloc | apply pw_below_drewN | apply below_drew1 | refine below_set ?_ GE362.out) | exact HB.out)⟩⟩
 case round =>
  clear H'
  try clear c1
  try clear p2
  obtain ⟨x3_1, rfl, HA, HK1, BK362, HB⟩ := hrel
  cases gk with
  | zero => exact absurd HA.out (by simp [grapevineref05_Right.l0])
  | succ k1 =>
   have H := HA.out
   clear HA
   simp only [grapevineref05_Right.l0] at H
   by_cases c3 : x3_1 < (l0_4.length : Int)
   ·rw [if_pos c3] at H
    have c3b0 : decide (x3_1 < (l0_4.length : Int)) = true := decide_eq_true c3
    clear c3
    by_cases c4 : 0 ≤ x3_1
    ·rw [if_pos c4] at H
     have c4b0 : decide (0 ≤ x3_1) = true := decide_eq_true c4
     clear c4
     by_cases c5 : ((rdOf ByteArray.empty l0_4 x3_1).size : Int) = 0
     ·rw [if_pos c5] at H
      have c5b0 : (((rdOf ByteArray.empty l0_4 x3_1).size : Int) == 0) = true := beq_iff_eq.mpr c5
      have c5b1 : (((rdOf ByteArray.empty l0_4 x3_1).size : Int) != 0) = false := bne_eq_false_iff_eq.mpr c5
      clear c5
      obtain rfl := Option.some.inj H
      have hcz6_0 : wr.cell? ⟨gb362, 0, none⟩ = some (.int .i64 a0_0) := (blk_cell BK362.out 0).trans rfl
      have hcz6_1 : wr.cell? ⟨gb362, 1, none⟩ = some (.int .i64 a0_1) := (blk_cell BK362.out 1).trans rfl
      have hcz6_2 : wr.cell? ⟨gb362, 2, none⟩ = some (.int .i64 a0_2) := (blk_cell BK362.out 2).trans rfl
      have hcz6_3 : wr.cell? ⟨gb362, 3, none⟩ = some (.int .i64 a0_3) := (blk_cell BK362.out 3).trans rfl
      have hcz6_4 : wr.cell? ⟨gb362, 4, none⟩ = some (.slice A0_4 l0_4.length c0_4) := (blk_cell BK362.out 4).trans rfl
      have hfz6_0 := blk_frozen BK362.out 0
      have hfz6_1 := blk_frozen BK362.out 1
      have hfz6_2 := blk_frozen BK362.out 2
      have hfz6_3 := blk_frozen BK362.out 3
      have hfz6_4 := blk_frozen BK362.out 4
      have p365 : 0 ≤ (x3_1 : Int) := of_decide_eq_true (by first | (with_reducible assumption) | assumption)
      have q365 : x3_1 < (l0_4.length : Int) := of_decide_eq_true (by first | (with_reducible assumption) | assumption)
      obtain ⟨ad365, e365, hx365_0⟩ := Kd.at_string HR0_4.out x3_1 p365 q365
      cases e365
      replace hx365_0 := (HB.out.cell (World.block_lt_of_cell? w _ hx365_0)).trans hx365_0
      replace p365 := eq_true p365
      replace q365 := eq_true q365
      go_wp2
      repeat (go_quiet (fail); try go_wp2)
      go_ret
      exact ⟨by first | rfl | (simp [errW_none, errW_some] <;> rfl) | (simp [*, errW_none, errW_some] <;> rfl), by repeat (first | (with_reducible first | exact HB.out | apply below_alloc | apply pw_below_drewN | apply below_drew1 | refine below_set ?_ GE362.out) | exact HB.out)⟩
     ·rw [if_neg c5] at H
      have c5b0 : (((rdOf ByteArray.empty l0_4 x3_1).size : Int) == 0) = false := beq_eq_false_iff_ne.mpr c5
      have c5b1 : (((rdOf ByteArray.empty l0_4 x3_1).size : Int) != 0) = true := bne_iff_ne.mpr c5
      have HC7 := Aside0.mk H
      clear H
      have hcz8_0 : wr.cell? ⟨gb362, 0, none⟩ = some (.int .i64 a0_0) := (blk_cell BK362.out 0).trans rfl
      have hcz8_1 : wr.cell? ⟨gb362, 1, none⟩ = some (.int .i64 a0_1) := (blk_cell BK362.out 1).trans rfl
      have hcz8_2 : wr.cell? ⟨gb362, 2, none⟩ = some (.int .i64 a0_2) := (blk_cell BK362.out 2).trans rfl
      have hcz8_3 : wr.cell? ⟨gb362, 3, none⟩ = some (.int .i64 a0_3) := (blk_cell BK362.out 3).trans rfl
      have hcz8_4 : wr.cell? ⟨gb362, 4, none⟩ = some (.slice A0_4 l0_4.length c0_4) := (blk_cell BK362.out 4).trans rfl
      have hfz8_0 := blk_frozen BK362.out 0
      have hfz8_1 := blk_frozen BK362.out 1
      have hfz8_2 := blk_frozen BK362.out 2
      have hfz8_3 := blk_frozen BK362.out 3
      have hfz8_4 := blk_frozen BK362.out 4
      have p365 : 0 ≤ (x3_1 : Int) := of_decide_eq_true (by first | (with_reducible assumption) | assumption)
      have q365 : x3_1 < (l0_4.length : Int) := of_decide_eq_true (by first | (with_reducible assumption) | assumption)
      obtain ⟨ad365, e365, hx365_0⟩ := Kd.at_string HR0_4.out x3_1 p365 q365
      cases e365
      replace hx365_0 := (HB.out.cell (World.block_lt_of_cell? w _ hx365_0)).trans hx365_0
      replace p365 := eq_true p365
      replace q365 := eq_true q365
      go_upto_region 7 with (fail)
      repeat (go_quiet (fail); go_upto_region 7 with (fail))
      go_cut [32] (fun v32 wc => ∃ (kq : Nat) (x32_6 : Bool), v32 = .bool x32_6 ∧ Aside0 (grapevineref05_Right.j1 kq x3_1 (rdOf ByteArray.empty l0_4 x3_1) x32_6 a0_0 a0_1 a0_2 a0_3 l0_4 = some r) ∧ Aside0 (kq ≤ k1) ∧ Aside0 (wc.heap[gb362]? = some (.cells #[.int .i64 a0_0, .int .i64 a0_1, .int .i64 a0_2, .int .i64 a0_3, (.slice (some ad365) l0_4.length c0_4)] 33 (0, 0))) ∧ Aside0 (Below w.heap.size w wc))
      case first =>
       have H := HC7.out
       clear HC7
       by_cases c9 : 0 < ((rdOf ByteArray.empty l0_4 x3_1).size : Int)
       ·rw [if_pos c9] at H
        have c9b0 : decide (0 < ((rdOf ByteArray.empty l0_4 x3_1).size : Int)) = true := decide_eq_true c9
        have c9b1 : decide (0 < (rdOf ByteArray.empty l0_4 x3_1).size) = true := decide_eq_true (by omega)
        clear c9
        (first | rw [c9b0] | (simp only [i64_w, i32_w]; rw [c9b0]) | skip)
        by_cases c11 : (bt (rdOf ByteArray.empty l0_4 x3_1) 0) = 32
        ·rw [if_pos c11] at H
         have c11b0 : ((bt (rdOf ByteArray.empty l0_4 x3_1) 0) == 32) = true := beq_iff_eq.mpr c11
         have c11b1 : ((bt (rdOf ByteArray.empty l0_4 x3_1) 0) != 32) = false := bne_eq_false_iff_eq.mpr c11
         clear c11
         have H' := Aside0.mk H
         clear H
         have p10 : 0 ≤ (0 : Int) := (by omega)
         have q10 : 0 < (rdOf ByteArray.empty l0_4 x3_1).size := (by have : (0 : Int) < ((rdOf ByteArray.empty l0_4 x3_1).size : Int) := of_decide_eq_true (by first | (with_reducible assumption) | assumption); omega)
         have hx10 : ∀ h : 0 < (rdOf ByteArray.empty l0_4 x3_1).size, (((rdOf ByteArray.empty l0_4 x3_1)[0]'h).toNat : Int) = bt (rdOf ByteArray.empty l0_4 x3_1) 0 := bt_at (rdOf ByteArray.empty l0_4 x3_1) 0
         clear p10
         have qi10 : (0 < ((rdOf ByteArray.empty l0_4 x3_1).size : Int)) = True := eq_true (of_decide_eq_true (by first | (with_reducible assumption) | assumption))
         replace q10 := eq_true q10
         go_wp2
         repeat (go_quiet (fail); try go_wp2)
         go_meet
         case rel => exact ⟨_, (false), (by first | rfl | (simp; done) | (simp [*]; done)), H', ⟨by have := HK1.out; first | omega | exact Nat.le_refl _⟩, ⟨by (with_reducible repeat (first | refine blk_drewN ?_ _ | refine blk_drew ?_ | refine blk_alloc ?_ _)); exact BK362.out⟩, ⟨by repeat (first | (with_reducible first | exact HB.out | apply below_alloc | apply pw_below_drewN | apply below_drew1 | refine below_set ?_ GE362.out) | exact HB.out)⟩⟩
        ·rw [if_neg c11] at H
         have c11b0 : ((bt (rdOf ByteArray.empty l0_4 x3_1) 0) == 32) = false := beq_eq_false_iff_ne.mpr c11
         have c11b1 : ((bt (rdOf ByteArray.empty l0_4 x3_1) 0) != 32) = true := bne_iff_ne.mpr c11
         by_cases c13 : (bt (rdOf ByteArray.empty l0_4 x3_1) 0) = 43
         ·rw [if_pos c13] at H
          have c13b0 : ((bt (rdOf ByteArray.empty l0_4 x3_1) 0) == 43) = true := beq_iff_eq.mpr c13
          have c13b1 : ((bt (rdOf ByteArray.empty l0_4 x3_1) 0) != 43) = false := bne_eq_false_iff_eq.mpr c13
          clear c13
          have H' := Aside0.mk H
          clear H
          have p10 : 0 ≤ (0 : Int) := (by omega)
          have q10 : 0 < (rdOf ByteArray.empty l0_4 x3_1).size := (by have : (0 : Int) < ((rdOf ByteArray.empty l0_4 x3_1).size : Int) := of_decide_eq_true (by first | (with_reducible assumption) | assumption); omega)
          have hx10 : ∀ h : 0 < (rdOf ByteArray.empty l0_4 x3_1).size, (((rdOf ByteArray.empty l0_4 x3_1)[0]'h).toNat : Int) = bt (rdOf ByteArray.empty l0_4 x3_1) 0 := bt_at (rdOf ByteArray.empty l0_4 x3_1) 0
          clear p10
          have qi10 : (0 < ((rdOf ByteArray.empty l0_4 x3_1).size : Int)) = True := eq_true (of_decide_eq_true (by first | (with_reducible assumption) | assumption))
          replace q10 := eq_true q10
          have p12 : 0 ≤ (0 : Int) := (by omega)
          have q12 : 0 < (rdOf ByteArray.empty l0_4 x3_1).size := (by have : (0 : Int) < ((rdOf ByteArray.empty l0_4 x3_1).size : Int) := of_decide_eq_true (by first | (with_reducible assumption) | assumption); omega)
          have hx12 : ∀ h : 0 < (rdOf ByteArray.empty l0_4 x3_1).size, (((rdOf ByteArray.empty l0_4 x3_1)[0]'h).toNat : Int) = bt (rdOf ByteArray.empty l0_4 x3_1) 0 := bt_at (rdOf ByteArray.empty l0_4 x3_1) 0
          clear p12
          have qi12 : (0 < ((rdOf ByteArray.empty l0_4 x3_1).size : Int)) = True := eq_true (of_decide_eq_true (by first | (with_reducible assumption) | assumption))
          replace q12 := eq_true q12
          go_wp2
          repeat (go_quiet (fail); try go_wp2)
          go_meet
          case rel => exact ⟨_, (false), (by first | rfl | (simp; done) | (simp [*]; done)), H', ⟨by have := HK1.out; first | omega | exact Nat.le_refl _⟩, ⟨by (with_reducible repeat (first | refine blk_drewN ?_ _ | refine blk_drew ?_ | refine blk_alloc ?_ _)); exact BK362.out⟩, ⟨by repeat (first | (with_reducible first | exact HB.out | apply below_alloc | apply pw_below_drewN | apply below_drew1 | refine below_set ?_ GE362.out) | exact HB.out)⟩⟩
         ·rw [if_neg c13] at H
          have c13b0 : ((bt (rdOf ByteArray.empty l0_4 x3_1) 0) == 43) = false := beq_eq_false_iff_ne.mpr c13
          have c13b1 : ((bt (rdOf ByteArray.empty l0_4 x3_1) 0) != 43) = true := bne_iff_ne.mpr c13
          have H' := Aside0.mk H
          clear H
          have p10 : 0 ≤ (0 : Int) := (by omega)
          have q10 : 0 < (rdOf ByteArray.empty l0_4 x3_1).size := (by have : (0 : Int) < ((rdOf ByteArray.empty l0_4 x3_1).size : Int) := of_decide_eq_true (by first | (with_reducible assumption) | assumption); omega)
          have hx10 : ∀ h : 0 < (rdOf ByteArray.empty l0_4 x3_1).size, (((rdOf ByteArray.empty l0_4 x3_1)[0]'h).toNat : Int) = bt (rdOf ByteArray.empty l0_4 x3_1) 0 := bt_at (rdOf ByteArray.empty l0_4 x3_1) 0
          clear p10
          have qi10 : (0 < ((rdOf ByteArray.empty l0_4 x3_1).size : Int)) = True := eq_true (of_decide_eq_true (by first | (with_reducible assumption) | assumption))
          replace q10 := eq_true q10
          have p12 : 0 ≤ (0 : Int) := (by omega)
          have q12 : 0 < (rdOf ByteArray.empty l0_4 x3_1).size := (by have : (0 : Int) < ((rdOf ByteArray.empty l0_4 x3_1).size : Int) := of_decide_eq_true (by first | (with_reducible assumption) | assumption); omega)
          have hx12 : ∀ h : 0 < (rdOf ByteArray.empty l0_4 x3_1).size, (((rdOf ByteArray.empty l0_4 x3_1)[0]'h).toNat : Int) = bt (rdOf ByteArray.empty l0_4 x3_1) 0 := bt_at (rdOf ByteArray.empty l0_4 x3_1) 0
          clear p12
          have qi12 : (0 < ((rdOf ByteArray.empty l0_4 x3_1).size : Int)) = True := eq_true (of_decide_eq_true (by first | (with_reducible assumption) | assumption))
          replace q12 := eq_true q12
          have p14 : 0 ≤ (0 : Int) := (by omega)
          have q14 : 0 < (rdOf ByteArray.empty l0_4 x3_1).size := (by have : (0 : Int) < ((rdOf ByteArray.empty l0_4 x3_1).size : Int) := of_decide_eq_true (by first | (with_reducible assumption) | assumption); omega)
          have hx14 : ∀ h : 0 < (rdOf ByteArray.empty l0_4 x3_1).size, (((rdOf ByteArray.empty l0_4 x3_1)[0]'h).toNat : Int) = bt (rdOf ByteArray.empty l0_4 x3_1) 0 := bt_at (rdOf ByteArray.empty l0_4 x3_1) 0
          clear p14
          have qi14 : (0 < ((rdOf ByteArray.empty l0_4 x3_1).size : Int)) = True := eq_true (of_decide_eq_true (by first | (with_reducible assumption) | assumption))
          replace q14 := eq_true q14
          go_wp2
          repeat (go_quiet (fail); try go_wp2)
          go_meet
          case rel => exact ⟨_, (((bt (rdOf ByteArray.empty l0_4 x3_1) 0) != 45)), (by first | rfl | (simp; done) | (simp [*]; done)), H', ⟨by have := HK1.out; first | omega | exact Nat.le_refl _⟩, ⟨by (with_reducible repeat (first | refine blk_drewN ?_ _ | refine blk_drew ?_ | refine blk_alloc ?_ _)); exact BK362.out⟩, ⟨by repeat (first | (with_reducible first | exact HB.out | apply below_alloc | apply pw_below_drewN | apply below_drew1 | refine below_set ?_ GE362.out) | exact HB.out)⟩⟩
       ·rw [if_neg c9] at H
        exact absurd H (by simp)
      case rest =>
       clear HC7
       try clear c1
       try clear p1
       try clear q1
       try clear hx1
       try clear qi1
       try clear p2
       try clear c3
       try clear c3b0
       try clear p3
       try clear q3
       try clear hx3
       try clear c4
       try clear c4b0
       try clear c5
       try clear c5b0
       try clear c5b1
       try clear c9
       try clear c9b0
       try clear c9b1
       try clear p10
       try clear q10
       try clear hx10
       try clear qi10
       try clear c11
       try clear c11b0
       try clear c11b1
       try clear p12
       try clear q12
       try clear hx12
       try clear qi12
       try clear c13
       try clear c13b0
       try clear c13b1
       try clear p14
       try clear q14
       try clear hx14
       try clear qi14
       try clear hcz6_0
       try clear hcz6_1
       try clear hcz6_2
       try clear hcz6_3
       try clear hcz6_4
       try clear hcz8_0
       try clear hcz8_1
       try clear hcz8_2
       try clear hcz8_3
       try clear hcz8_4
       try clear hfz6_0
       try clear hfz6_1
       try clear hfz6_2
       try clear hfz6_3
       try clear hfz6_4
       try clear hfz8_0
       try clear hfz8_1
       try clear hfz8_2
       try clear hfz8_3
       try clear hfz8_4
       try clear hx365_0
       try clear p10
       try clear p12
       try clear p14
       try clear p2
       try clear p365
       try clear q10
       try clear q12
       try clear q14
       try clear q365
       obtain ⟨kq, x32_6, rfl, HA, HJ6, BK362, HB⟩ := hcut
       cases kq with
       | zero => exact absurd HA.out (by simp [grapevineref05_Right.j1])
       | succ kj6 =>
        have H := HA.out
        clear HA
        simp only [grapevineref05_Right.j1] at H
        by_cases c15 : x32_6 = true
        ·subst c15
         have H1 : (some false) = some r := by rw [if_pos rfl] at H; exact H
         clear H
         have H := H1
         clear H1
         obtain rfl := Option.some.inj H
         go_wp2
         repeat (go_quiet (fail); try go_wp2)
         go_ret
         exact ⟨by first | rfl | (simp [errW_none, errW_some] <;> rfl) | (simp [*, errW_none, errW_some] <;> rfl), by repeat (first | (with_reducible first | exact HB.out | apply below_alloc | apply pw_below_drewN | apply below_drew1 | refine below_set ?_ GE362.out) | exact HB.out)⟩
        ·replace c15 := Bool.eq_false_iff.mpr c15
         subst c15
         have H1 : (if x3_1 > 0 then (if 0 < ((rdOf ByteArray.empty l0_4 x3_1).size : Int) then (if (bt (rdOf ByteArray.empty l0_4 x3_1) 0) = 45 then (if 0 ≤ (wrap64 (x3_1 - 1)) then (if (wrap64 (x3_1 - 1)) < (l0_4.length : Int) then (if 0 < ((rdOf ByteArray.empty l0_4 (wrap64 (x3_1 - 1))).size : Int) then (if (bt (rdOf ByteArray.empty l0_4 (wrap64 (x3_1 - 1))) 0) = 43 then (some false) else (grapevineref05_Right.l0 kj6 (wrap64 (x3_1 + 1)) a0_0 a0_1 a0_2 a0_3 l0_4)) else (none)) else (none)) else (none)) else (grapevineref05_Right.l0 kj6 (wrap64 (x3_1 + 1)) a0_0 a0_1 a0_2 a0_3 l0_4)) else (none)) else (grapevineref05_Right.l0 kj6 (wrap64 (x3_1 + 1)) a0_0 a0_1 a0_2 a0_3 l0_4)) = some r := by rw [if_neg (show ¬ (false = true) by decide)] at H; exact H
         clear H
         have H := H1
         clear H1
         by_cases c16 : x3_1 > 0
         ·rw [if_pos c16] at H
          have c16b0 : decide (0 < x3_1) = true := decide_eq_true c16
          clear c16
          by_cases c17 : 0 < ((rdOf ByteArray.empty l0_4 x3_1).size : Int)
          ·rw [if_pos c17] at H
           have c17b0 : decide (0 < ((rdOf ByteArray.empty l0_4 x3_1).size : Int)) = true := decide_eq_true c17
           have c17b1 : decide (0 < (rdOf ByteArray.empty l0_4 x3_1).size) = true := decide_eq_true (by omega)
           clear c17
           by_cases c19 : (bt (rdOf ByteArray.empty l0_4 x3_1) 0) = 45
           ·rw [if_pos c19] at H
            have c19b0 : ((bt (rdOf ByteArray.empty l0_4 x3_1) 0) == 45) = true := beq_iff_eq.mpr c19
            have c19b1 : ((bt (rdOf ByteArray.empty l0_4 x3_1) 0) != 45) = false := bne_eq_false_iff_eq.mpr c19
            clear c19
            obtain ⟨ji20, hji20⟩ : ∃ j_ : Int, (wrap64 (x3_1 - 1)) = j_ := ⟨_, rfl⟩
            replace H : (if 0 ≤ (ji20) then (if (ji20) < (l0_4.length : Int) then (if 0 < ((rdOf ByteArray.empty l0_4 (ji20)).size : Int) then (if (bt (rdOf ByteArray.empty l0_4 (ji20)) 0) = 43 then (some false) else (grapevineref05_Right.l0 kj6 (wrap64 (x3_1 + 1)) a0_0 a0_1 a0_2 a0_3 l0_4)) else (none)) else (none)) else (none)) = some r := by first | (rw [hji20] at H; exact H) | (simp only [hji20] at H ⊢; exact H)
            have hji20w : (IntKind.i64.wrap (x3_1 - 1)) = ji20 := (i64_w _).trans hji20
            by_cases c21 : 0 ≤ (ji20)
            ·rw [if_pos c21] at H
             have c21b0 : decide (0 ≤ (ji20)) = true := decide_eq_true c21
             clear c21
             by_cases c22 : (ji20) < (l0_4.length : Int)
             ·rw [if_pos c22] at H
              have c22b0 : decide ((ji20) < (l0_4.length : Int)) = true := decide_eq_true c22
              clear c22
              by_cases c23 : 0 < ((rdOf ByteArray.empty l0_4 (ji20)).size : Int)
              ·rw [if_pos c23] at H
               have c23b0 : decide (0 < ((rdOf ByteArray.empty l0_4 (ji20)).size : Int)) = true := decide_eq_true c23
               have c23b1 : decide (0 < (rdOf ByteArray.empty l0_4 (ji20)).size) = true := decide_eq_true (by omega)
               clear c23
               by_cases c25 : (bt (rdOf ByteArray.empty l0_4 (ji20)) 0) = 43
               ·rw [if_pos c25] at H
                have c25b0 : ((bt (rdOf ByteArray.empty l0_4 (ji20)) 0) == 43) = true := beq_iff_eq.mpr c25
                have c25b1 : ((bt (rdOf ByteArray.empty l0_4 (ji20)) 0) != 43) = false := bne_eq_false_iff_eq.mpr c25
                clear c25
                obtain rfl := Option.some.inj H
                have p18 : 0 ≤ (0 : Int) := (by omega)
                have q18 : 0 < (rdOf ByteArray.empty l0_4 x3_1).size := (by have : (0 : Int) < ((rdOf ByteArray.empty l0_4 x3_1).size : Int) := of_decide_eq_true (by first | (with_reducible assumption) | assumption); omega)
                have hx18 : ∀ h : 0 < (rdOf ByteArray.empty l0_4 x3_1).size, (((rdOf ByteArray.empty l0_4 x3_1)[0]'h).toNat : Int) = bt (rdOf ByteArray.empty l0_4 x3_1) 0 := bt_at (rdOf ByteArray.empty l0_4 x3_1) 0
                clear p18
                have qi18 : (0 < ((rdOf ByteArray.empty l0_4 x3_1).size : Int)) = True := eq_true (of_decide_eq_true (by first | (with_reducible assumption) | assumption))
                replace q18 := eq_true q18
                have hcz26_0 : wc.cell? ⟨gb362, 0, none⟩ = some (.int .i64 a0_0) := (blk_cell BK362.out 0).trans rfl
                have hcz26_1 : wc.cell? ⟨gb362, 1, none⟩ = some (.int .i64 a0_1) := (blk_cell BK362.out 1).trans rfl
                have hcz26_2 : wc.cell? ⟨gb362, 2, none⟩ = some (.int .i64 a0_2) := (blk_cell BK362.out 2).trans rfl
                have hcz26_3 : wc.cell? ⟨gb362, 3, none⟩ = some (.int .i64 a0_3) := (blk_cell BK362.out 3).trans rfl
                have hcz26_4 : wc.cell? ⟨gb362, 4, none⟩ = some (.slice (some ad365) l0_4.length c0_4) := (blk_cell BK362.out 4).trans rfl
                have hfz26_0 := blk_frozen BK362.out 0
                have hfz26_1 := blk_frozen BK362.out 1
                have hfz26_2 := blk_frozen BK362.out 2
                have hfz26_3 := blk_frozen BK362.out 3
                have hfz26_4 := blk_frozen BK362.out 4
                have p366 : 0 ≤ ((ji20) : Int) := of_decide_eq_true (by first | (with_reducible assumption) | assumption)
                have q366 : (ji20) < (l0_4.length : Int) := of_decide_eq_true (by first | (with_reducible assumption) | assumption)
                obtain ⟨ad366, e366, hx366_0⟩ := Kd.at_string HR0_4.out (ji20) p366 q366
                obtain rfl : ad365 = ad366 := (by injection e366)
                replace hx366_0 := (HB.out.cell (World.block_lt_of_cell? w _ hx366_0)).trans hx366_0
                replace p366 := eq_true p366
                replace q366 := eq_true q366
                have p24 : 0 ≤ (0 : Int) := (by omega)
                have q24 : 0 < (rdOf ByteArray.empty l0_4 (ji20)).size := (by have : (0 : Int) < ((rdOf ByteArray.empty l0_4 (ji20)).size : Int) := of_decide_eq_true (by first | (with_reducible assumption) | assumption); omega)
                have hx24 : ∀ h : 0 < (rdOf ByteArray.empty l0_4 (ji20)).size, (((rdOf ByteArray.empty l0_4 (ji20))[0]'h).toNat : Int) = bt (rdOf ByteArray.empty l0_4 (ji20)) 0 := bt_at (rdOf ByteArray.empty l0_4 (ji20)) 0
                clear p24
                have qi24 : (0 < ((rdOf ByteArray.empty l0_4 (ji20)).size : Int)) = True := eq_true (of_decide_eq_true (by first | (with_reducible assumption) | assumption))
                replace q24 := eq_true q24
                go_wp2
                repeat (go_quiet (fail); try go_wp2)
                go_ret
                exact ⟨by first | rfl | (simp [errW_none, errW_some] <;> rfl) | (simp only [← hji20]; first | rfl | (simp [errW_none, errW_some] <;> rfl)) | (simp [*, errW_none, errW_some] <;> rfl), by repeat (first | (with_reducible first | exact HB.out | apply below_alloc | apply pw_below_drewN | apply below_drew1 | refine below_set ?_ GE362.out) | exact HB.out)⟩
               ·rw [if_neg c25] at H
                have c25b0 : ((bt (rdOf ByteArray.empty l0_4 (ji20)) 0) == 43) = false := beq_eq_false_iff_ne.mpr c25
                have c25b1 : ((bt (rdOf ByteArray.empty l0_4 (ji20)) 0) != 43) = true := bne_iff_ne.mpr c25
                have H' := Aside0.mk H
                clear H
                have p18 : 0 ≤ (0 : Int) := (by omega)
                have q18 : 0 < (rdOf ByteArray.empty l0_4 x3_1).size := (by have : (0 : Int) < ((rdOf ByteArray.empty l0_4 x3_1).size : Int) := of_decide_eq_true (by first | (with_reducible assumption) | assumption); omega)
                have hx18 : ∀ h : 0 < (rdOf ByteArray.empty l0_4 x3_1).size, (((rdOf ByteArray.empty l0_4 x3_1)[0]'h).toNat : Int) = bt (rdOf ByteArray.empty l0_4 x3_1) 0 := bt_at (rdOf ByteArray.empty l0_4 x3_1) 0
                clear p18
                have qi18 : (0 < ((rdOf ByteArray.empty l0_4 x3_1).size : Int)) = True := eq_true (of_decide_eq_true (by first | (with_reducible assumption) | assumption))
                replace q18 := eq_true q18
                have hcz27_0 : wc.cell? ⟨gb362, 0, none⟩ = some (.int .i64 a0_0) := (blk_cell BK362.out 0).trans rfl
                have hcz27_1 : wc.cell? ⟨gb362, 1, none⟩ = some (.int .i64 a0_1) := (blk_cell BK362.out 1).trans rfl
                have hcz27_2 : wc.cell? ⟨gb362, 2, none⟩ = some (.int .i64 a0_2) := (blk_cell BK362.out 2).trans rfl
                have hcz27_3 : wc.cell? ⟨gb362, 3, none⟩ = some (.int .i64 a0_3) := (blk_cell BK362.out 3).trans rfl
                have hcz27_4 : wc.cell? ⟨gb362, 4, none⟩ = some (.slice (some ad365) l0_4.length c0_4) := (blk_cell BK362.out 4).trans rfl
                have hfz27_0 := blk_frozen BK362.out 0
                have hfz27_1 := blk_frozen BK362.out 1
                have hfz27_2 := blk_frozen BK362.out 2
                have hfz27_3 := blk_frozen BK362.out 3
                have hfz27_4 := blk_frozen BK362.out 4
                have p366 : 0 ≤ ((ji20) : Int) := of_decide_eq_true (by first | (with_reducible assumption) | assumption)
                have q366 : (ji20) < (l0_4.length : Int) := of_decide_eq_true (by first | (with_reducible assumption) | assumption)
                obtain ⟨ad366, e366, hx366_0⟩ := Kd.at_string HR0_4.out (ji20) p366 q366
                obtain rfl : ad365 = ad366 := (by injection e366)
                replace hx366_0 := (HB.out.cell (World.block_lt_of_cell? w _ hx366_0)).trans hx366_0
                replace p366 := eq_true p366
                replace q366 := eq_true q366
                have p24 : 0 ≤ (0 : Int) := (by omega)
                have q24 : 0 < (rdOf ByteArray.empty l0_4 (ji20)).size := (by have : (0 : Int) < ((rdOf ByteArray.empty l0_4 (ji20)).size : Int) := of_decide_eq_true (by first | (with_reducible assumption) | assumption); omega)
                have hx24 : ∀ h : 0 < (rdOf ByteArray.empty l0_4 (ji20)).size, (((rdOf ByteArray.empty l0_4 (ji20))[0]'h).toNat : Int) = bt (rdOf ByteArray.empty l0_4 (ji20)) 0 := bt_at (rdOf ByteArray.empty l0_4 (ji20)) 0
                clear p24
                have qi24 : (0 < ((rdOf ByteArray.empty l0_4 (ji20)).size : Int)) = True := eq_true (of_decide_eq_true (by first | (with_reducible assumption) | assumption))
                replace q24 := eq_true q24
                go_wp2
                repeat (go_quiet (fail); try go_wp2)
                go_roundg kj6
                case measure => have := HK1.out; have := HJ6.out; omega
                case rel => exact ⟨(wrap64 (x3_1 + 1)), (by first | rfl | (simp; done) | (simp [*]; done)), H', ⟨by have := HK1.out; have := HJ6.out; omega⟩, ⟨by (with_reducible repeat (first | refine blk_drewN ?_ _ | refine blk_drew ?_ | refine blk_alloc ?_ _)); exact BK362.out⟩, ⟨by repeat (first | (with_reducible first | exact HB.out | apply below_alloc | apply pw_below_drewN | apply below_drew1 | refine below_set ?_ GE362.out) | exact HB.out)⟩⟩
              ·rw [if_neg c23] at H
               exact absurd H (by simp)
             ·rw [if_neg c22] at H
              exact absurd H (by simp)
            ·rw [if_neg c21] at H
             exact absurd H (by simp)
           ·rw [if_neg c19] at H
            have c19b0 : ((bt (rdOf ByteArray.empty l0_4 x3_1) 0) == 45) = false := beq_eq_false_iff_ne.mpr c19
            have c19b1 : ((bt (rdOf ByteArray.empty l0_4 x3_1) 0) != 45) = true := bne_iff_ne.mpr c19
            have H' := Aside0.mk H
            clear H
            have p18 : 0 ≤ (0 : Int) := (by omega)
            have q18 : 0 < (rdOf ByteArray.empty l0_4 x3_1).size := (by have : (0 : Int) < ((rdOf ByteArray.empty l0_4 x3_1).size : Int) := of_decide_eq_true (by first | (with_reducible assumption) | assumption); omega)
            have hx18 : ∀ h : 0 < (rdOf ByteArray.empty l0_4 x3_1).size, (((rdOf ByteArray.empty l0_4 x3_1)[0]'h).toNat : Int) = bt (rdOf ByteArray.empty l0_4 x3_1) 0 := bt_at (rdOf ByteArray.empty l0_4 x3_1) 0
            clear p18
            have qi18 : (0 < ((rdOf ByteArray.empty l0_4 x3_1).size : Int)) = True := eq_true (of_decide_eq_true (by first | (with_reducible assumption) | assumption))
            replace q18 := eq_true q18
            go_wp2
            repeat (go_quiet (fail); try go_wp2)
            go_roundg kj6
            case measure => have := HK1.out; have := HJ6.out; omega
            case rel => exact ⟨(wrap64 (x3_1 + 1)), (by first | rfl | (simp; done) | (simp [*]; done)), H', ⟨by have := HK1.out; have := HJ6.out; omega⟩, ⟨by (with_reducible repeat (first | refine blk_drewN ?_ _ | refine blk_drew ?_ | refine blk_alloc ?_ _)); exact BK362.out⟩, ⟨by repeat (first | (with_reducible first | exact HB.out | apply below_alloc | apply pw_below_drewN | apply below_drew1 | refine below_set ?_ GE362.out) | exact HB.out)⟩⟩
          ·rw [if_neg c17] at H
           exact absurd H (by simp)
         ·rw [if_neg c16] at H
          have c16b0 : decide (0 < x3_1) = false := decide_eq_false c16
          clear c16
          have H' := Aside0.mk H
          clear H
          go_wp2
          repeat (go_quiet (fail); try go_wp2)
          go_roundg kj6
          case measure => have := HK1.out; have := HJ6.out; omega
          case rel => exact ⟨(wrap64 (x3_1 + 1)), (by first | rfl | (simp; done) | (simp [*]; done)), H', ⟨by have := HK1.out; have := HJ6.out; omega⟩, ⟨by (with_reducible repeat (first | refine blk_drewN ?_ _ | refine blk_drew ?_ | refine blk_alloc ?_ _)); exact BK362.out⟩, ⟨by repeat (first | (with_reducible first | exact HB.out | apply below_alloc | apply pw_below_drewN | apply below_drew1 | refine below_set ?_ GE362.out) | exact HB.out)⟩⟩
    ·rw [if_neg c4] at H
     exact absurd H (by simp)
   ·rw [if_neg c3] at H
    have c3b0 : decide (x3_1 < (l0_4.length : Int)) = false := decide_eq_false c3
    clear c3
    by_cases c28 : a0_0 ≥ 0
    ·rw [if_pos c28] at H
     have c28b0 : decide (0 ≤ a0_0) = true := decide_eq_true c28
     clear c28
     by_cases c29 : a0_2 ≥ 0
     ·rw [if_pos c29] at H
      have c29b0 : decide (0 ≤ a0_2) = true := decide_eq_true c29
      clear c29
      replace H := Option.bind_eq_some_iff.mp H
      obtain ⟨t363, A300, H⟩ := H
      replace H : (if a0_1 = t363 then ((grapevineref05_Many.f k1 l0_4 43).bind fun t364 => (some (a0_3 == t364))) else (some false)) = some r := H
      have A30 := Aside0.mk A300
      clear A300
      by_cases c31 : a0_1 = t363
      ·rw [if_pos c31] at H
       have c31b0 : (a0_1 == t363) = true := beq_iff_eq.mpr c31
       have c31b1 : (a0_1 != t363) = false := bne_eq_false_iff_eq.mpr c31
       clear c31
       replace H := Option.bind_eq_some_iff.mp H
       obtain ⟨t364, A320, H⟩ := H
       replace H : (some (a0_3 == t364)) = some r := H
       have A32 := Aside0.mk A320
       clear A320
       obtain rfl := Option.some.inj H
       have hcz33_0 : wr.cell? ⟨gb362, 0, none⟩ = some (.int .i64 a0_0) := (blk_cell BK362.out 0).trans rfl
       have hcz33_1 : wr.cell? ⟨gb362, 1, none⟩ = some (.int .i64 a0_1) := (blk_cell BK362.out 1).trans rfl
       have hcz33_2 : wr.cell? ⟨gb362, 2, none⟩ = some (.int .i64 a0_2) := (blk_cell BK362.out 2).trans rfl
       have hcz33_3 : wr.cell? ⟨gb362, 3, none⟩ = some (.int .i64 a0_3) := (blk_cell BK362.out 3).trans rfl
       have hcz33_4 : wr.cell? ⟨gb362, 4, none⟩ = some (.slice A0_4 l0_4.length c0_4) := (blk_cell BK362.out 4).trans rfl
       have hfz33_0 := blk_frozen BK362.out 0
       have hfz33_1 := blk_frozen BK362.out 1
       have hfz33_2 := blk_frozen BK362.out 2
       have hfz33_3 := blk_frozen BK362.out 3
       have hfz33_4 := blk_frozen BK362.out 4
       go_wp2_with (first | (go_at_call 31; (with_reducible refine (grapevineref05_Many.calls k1 _ _ l0_4 45 t363 _ ?side1 ?side2 A30.out).mono ?_); (case side1 => repeat (first | exact (Kd.C_below HR0_4.out HB.out) | (with_reducible refine Kd.C_alloc ?_ _) | (with_reducible refine Kd.C_drewN ?_ _) | (with_reducible refine Kd.C_drew ?_))); (case side2 => exact HC0_4.out); rintro e w' ⟨rfl, ⟨nd, rfl⟩⟩; (try first | exact ⟨rfl, _, World.drewN_drewN _ _ _⟩ | exact ⟨rfl, _, Eq.trans (World.drewN_drewN _ _ _) (congrArg (World.drewN _) (Nat.add_assoc _ _ _))⟩)) | (go_at_call 31; (with_reducible refine (grapevineref05_Many.calls k1 _ _ l0_4 43 t364 _ ?side1 ?side2 A32.out).mono ?_); (case side1 => repeat (first | exact (Kd.C_below HR0_4.out (by repeat (first | (with_reducible first | exact HB.out | apply below_alloc | apply pw_below_drewN | apply below_drew1 | refine below_set ?_ GE362.out) | exact HB.out))) | (with_reducible refine Kd.C_alloc ?_ _) | (with_reducible refine Kd.C_drewN ?_ _) | (with_reducible refine Kd.C_drew ?_))); (case side2 => exact HC0_4.out); rintro e w' ⟨rfl, ⟨nd, rfl⟩⟩; (try first | exact ⟨rfl, _, World.drewN_drewN _ _ _⟩ | exact ⟨rfl, _, Eq.trans (World.drewN_drewN _ _ _) (congrArg (World.drewN _) (Nat.add_assoc _ _ _))⟩)))
       repeat (go_quiet (first | (go_at_call 31; (with_reducible refine (grapevineref05_Many.calls k1 _ _ l0_4 45 t363 _ ?side1 ?side2 A30.out).mono ?_); (case side1 => repeat (first | exact (Kd.C_below HR0_4.out HB.out) | (with_reducible refine Kd.C_alloc ?_ _) | (with_reducible refine Kd.C_drewN ?_ _) | (with_reducible refine Kd.C_drew ?_))); (case side2 => exact HC0_4.out); rintro e w' ⟨rfl, ⟨nd, rfl⟩⟩; (try first | exact ⟨rfl, _, World.drewN_drewN _ _ _⟩ | exact ⟨rfl, _, Eq.trans (World.drewN_drewN _ _ _) (congrArg (World.drewN _) (Nat.add_assoc _ _ _))⟩)) | (go_at_call 31; (with_reducible refine (grapevineref05_Many.calls k1 _ _ l0_4 43 t364 _ ?side1 ?side2 A32.out).mono ?_); (case side1 => repeat (first | exact (Kd.C_below HR0_4.out (by repeat (first | (with_reducible first | exact HB.out | apply below_alloc | apply pw_below_drewN | apply below_drew1 | refine below_set ?_ GE362.out) | exact HB.out))) | (with_reducible refine Kd.C_alloc ?_ _) | (with_reducible refine Kd.C_drewN ?_ _) | (with_reducible refine Kd.C_drew ?_))); (case side2 => exact HC0_4.out); rintro e w' ⟨rfl, ⟨nd, rfl⟩⟩; (try first | exact ⟨rfl, _, World.drewN_drewN _ _ _⟩ | exact ⟨rfl, _, Eq.trans (World.drewN_drewN _ _ _) (congrArg (World.drewN _) (Nat.add_assoc _ _ _))⟩))); try go_wp2_with (first | (go_at_call 31; (with_reducible refine (grapevineref05_Many.calls k1 _ _ l0_4 45 t363 _ ?side1 ?side2 A30.out).mono ?_); (case side1 => repeat (first | exact (Kd.C_below HR0_4.out HB.out) | (with_reducible refine Kd.C_alloc ?_ _) | (with_reducible refine Kd.C_drewN ?_ _) | (with_reducible refine Kd.C_drew ?_))); (case side2 => exact HC0_4.out); rintro e w' ⟨rfl, ⟨nd, rfl⟩⟩; (try first | exact ⟨rfl, _, World.drewN_drewN _ _ _⟩ | exact ⟨rfl, _, Eq.trans (World.drewN_drewN _ _ _) (congrArg (World.drewN _) (Nat.add_assoc _ _ _))⟩)) | (go_at_call 31; (with_reducible refine (grapevineref05_Many.calls k1 _ _ l0_4 43 t364 _ ?side1 ?side2 A32.out).mono ?_); (case side1 => repeat (first | exact (Kd.C_below HR0_4.out (by repeat (first | (with_reducible first | exact HB.out | apply below_alloc | apply pw_below_drewN | apply below_drew1 | refine below_set ?_ GE362.out) | exact HB.out))) | (with_reducible refine Kd.C_alloc ?_ _) | (with_reducible refine Kd.C_drewN ?_ _) | (with_reducible refine Kd.C_drew ?_))); (case side2 => exact HC0_4.out); rintro e w' ⟨rfl, ⟨nd, rfl⟩⟩; (try first | exact ⟨rfl, _, World.drewN_drewN _ _ _⟩ | exact ⟨rfl, _, Eq.trans (World.drewN_drewN _ _ _) (congrArg (World.drewN _) (Nat.add_assoc _ _ _))⟩))))
       go_ret
       exact ⟨by first | rfl | (simp [errW_none, errW_some] <;> rfl) | (simp [*, errW_none, errW_some] <;> rfl), by repeat (first | (with_reducible first | exact HB.out | apply below_alloc | apply pw_below_drewN | apply below_drew1 | refine below_set ?_ GE362.out) | exact HB.out)⟩
      ·rw [if_neg c31] at H
       have c31b0 : (a0_1 == t363) = false := beq_eq_false_iff_ne.mpr c31
       have c31b1 : (a0_1 != t363) = true := bne_iff_ne.mpr c31
       obtain rfl := Option.some.inj H
       have hcz34_0 : wr.cell? ⟨gb362, 0, none⟩ = some (.int .i64 a0_0) := (blk_cell BK362.out 0).trans rfl
       have hcz34_1 : wr.cell? ⟨gb362, 1, none⟩ = some (.int .i64 a0_1) := (blk_cell BK362.out 1).trans rfl
       have hcz34_2 : wr.cell? ⟨gb362, 2, none⟩ = some (.int .i64 a0_2) := (blk_cell BK362.out 2).trans rfl
       have hcz34_3 : wr.cell? ⟨gb362, 3, none⟩ = some (.int .i64 a0_3) := (blk_cell BK362.out 3).trans rfl
       have hcz34_4 : wr.cell? ⟨gb362, 4, none⟩ = some (.slice A0_4 l0_4.length c0_4) := (blk_cell BK362.out 4).trans rfl
       have hfz34_0 := blk_frozen BK362.out 0
       have hfz34_1 := blk_frozen BK362.out 1
       have hfz34_2 := blk_frozen BK362.out 2
       have hfz34_3 := blk_frozen BK362.out 3
       have hfz34_4 := blk_frozen BK362.out 4
       go_wp2_with (first | (go_at_call 31; (with_reducible refine (grapevineref05_Many.calls k1 _ _ l0_4 45 t363 _ ?side1 ?side2 A30.out).mono ?_); (case side1 => repeat (first | exact (Kd.C_below HR0_4.out HB.out) | (with_reducible refine Kd.C_alloc ?_ _) | (with_reducible refine Kd.C_drewN ?_ _) | (with_reducible refine Kd.C_drew ?_))); (case side2 => exact HC0_4.out); rintro e w' ⟨rfl, ⟨nd, rfl⟩⟩; (try first | exact ⟨rfl, _, World.drewN_drewN _ _ _⟩ | exact ⟨rfl, _, Eq.trans (World.drewN_drewN _ _ _) (congrArg (World.drewN _) (Nat.add_assoc _ _ _))⟩)))
       repeat (go_quiet (first | (go_at_call 31; (with_reducible refine (grapevineref05_Many.calls k1 _ _ l0_4 45 t363 _ ?side1 ?side2 A30.out).mono ?_); (case side1 => repeat (first | exact (Kd.C_below HR0_4.out HB.out) | (with_reducible refine Kd.C_alloc ?_ _) | (with_reducible refine Kd.C_drewN ?_ _) | (with_reducible refine Kd.C_drew ?_))); (case side2 => exact HC0_4.out); rintro e w' ⟨rfl, ⟨nd, rfl⟩⟩; (try first | exact ⟨rfl, _, World.drewN_drewN _ _ _⟩ | exact ⟨rfl, _, Eq.trans (World.drewN_drewN _ _ _) (congrArg (World.drewN _) (Nat.add_assoc _ _ _))⟩))); try go_wp2_with (first | (go_at_call 31; (with_reducible refine (grapevineref05_Many.calls k1 _ _ l0_4 45 t363 _ ?side1 ?side2 A30.out).mono ?_); (case side1 => repeat (first | exact (Kd.C_below HR0_4.out HB.out) | (with_reducible refine Kd.C_alloc ?_ _) | (with_reducible refine Kd.C_drewN ?_ _) | (with_reducible refine Kd.C_drew ?_))); (case side2 => exact HC0_4.out); rintro e w' ⟨rfl, ⟨nd, rfl⟩⟩; (try first | exact ⟨rfl, _, World.drewN_drewN _ _ _⟩ | exact ⟨rfl, _, Eq.trans (World.drewN_drewN _ _ _) (congrArg (World.drewN _) (Nat.add_assoc _ _ _))⟩))))
       go_ret
       exact ⟨by first | rfl | (simp [errW_none, errW_some] <;> rfl) | (simp [*, errW_none, errW_some] <;> rfl), by repeat (first | (with_reducible first | exact HB.out | apply below_alloc | apply pw_below_drewN | apply below_drew1 | refine below_set ?_ GE362.out) | exact HB.out)⟩
     ·rw [if_neg c29] at H
      have c29b0 : decide (0 ≤ a0_2) = false := decide_eq_false c29
      clear c29
      obtain rfl := Option.some.inj H
      have hcz35_0 : wr.cell? ⟨gb362, 0, none⟩ = some (.int .i64 a0_0) := (blk_cell BK362.out 0).trans rfl
      have hcz35_1 : wr.cell? ⟨gb362, 1, none⟩ = some (.int .i64 a0_1) := (blk_cell BK362.out 1).trans rfl
      have hcz35_2 : wr.cell? ⟨gb362, 2, none⟩ = some (.int .i64 a0_2) := (blk_cell BK362.out 2).trans rfl
      have hcz35_3 : wr.cell? ⟨gb362, 3, none⟩ = some (.int .i64 a0_3) := (blk_cell BK362.out 3).trans rfl
      have hcz35_4 : wr.cell? ⟨gb362, 4, none⟩ = some (.slice A0_4 l0_4.length c0_4) := (blk_cell BK362.out 4).trans rfl
      have hfz35_0 := blk_frozen BK362.out 0
      have hfz35_1 := blk_frozen BK362.out 1
      have hfz35_2 := blk_frozen BK362.out 2
      have hfz35_3 := blk_frozen BK362.out 3
      have hfz35_4 := blk_frozen BK362.out 4
      go_wp2
      repeat (go_quiet (fail); try go_wp2)
      go_ret
      exact ⟨by first | rfl | (simp [errW_none, errW_some] <;> rfl) | (simp [*, errW_none, errW_some] <;> rfl), by repeat (first | (with_reducible first | exact HB.out | apply below_alloc | apply pw_below_drewN | apply below_drew1 | refine below_set ?_ GE362.out) | exact HB.out)⟩
    ·rw [if_neg c28] at H
     have c28b0 : decide (0 ≤ a0_0) = false := decide_eq_false c28
     clear c28
     obtain rfl := Option.some.inj H
     have hcz36_0 : wr.cell? ⟨gb362, 0, none⟩ = some (.int .i64 a0_0) := (blk_cell BK362.out 0).trans rfl
     have hcz36_1 : wr.cell? ⟨gb362, 1, none⟩ = some (.int .i64 a0_1) := (blk_cell BK362.out 1).trans rfl
     have hcz36_2 : wr.cell? ⟨gb362, 2, none⟩ = some (.int .i64 a0_2) := (blk_cell BK362.out 2).trans rfl
     have hcz36_3 : wr.cell? ⟨gb362, 3, none⟩ = some (.int .i64 a0_3) := (blk_cell BK362.out 3).trans rfl
     have hcz36_4 : wr.cell? ⟨gb362, 4, none⟩ = some (.slice A0_4 l0_4.length c0_4) := (blk_cell BK362.out 4).trans rfl
     have hfz36_0 := blk_frozen BK362.out 0
     have hfz36_1 := blk_frozen BK362.out 1
     have hfz36_2 := blk_frozen BK362.out 2
     have hfz36_3 := blk_frozen BK362.out 3
     have hfz36_4 := blk_frozen BK362.out 4
     go_wp2
     repeat (go_quiet (fail); try go_wp2)
     go_ret
     exact ⟨by first | rfl | (simp [errW_none, errW_some] <;> rfl) | (simp [*, errW_none, errW_some] <;> rfl), by repeat (first | (with_reducible first | exact HB.out | apply below_alloc | apply pw_below_drewN | apply below_drew1 | refine below_set ?_ GE362.out) | exact HB.out)⟩

end Go.Proofs.Ytlabiajcohmjhaa.Pr
-- shrunk
