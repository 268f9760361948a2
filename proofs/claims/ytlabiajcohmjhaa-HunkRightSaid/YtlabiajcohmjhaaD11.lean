-- written by a program of this session's (a turned copy of the kit's printer); Lean checks it
import Derived.Test.YtlabiajcohmjhaaD0
namespace Go.Proofs.Ytlabiajcohmjhaa.Pr
open Go.RowKit Go.Proofs.YtlabiajcohmjhaaW.PrintWords Go.Proofs.YtlabiajcohmjhaaW.PrintLast Go.Proofs.YtlabiajcohmjhaaW.PrintMore
attribute [local go_sem] max2_int min2_int max_two min_two max_three min_three max_four min_four   -- for this text's walks alone
set_option linter.unusedVariables false
set_option linter.unusedSimpArgs false

def grapevineref05_Edits.l0 : Nat → List (S51) → Int → Bool → Int → Int → Int → Int → Int → List ByteArray → Option ((List (S51)))
 | 0, _, _, _, _, _, _, _, _, _ => none
 | k + 1, x3, x4, x5, x6, x386000, x386001, x386002, x386003, x386004 => if x6 < (x386004.length : Int) then (if 0 ≤ x6 then (if 0 < ((rdOf ByteArray.empty x386004 x6).size : Int) then (if (bt (rdOf ByteArray.empty x386004 x6) 0) = 32 then (grapevineref05_Edits.l0 k x3 (wrap64 (x4 + 1)) false (wrap64 (x6 + 1)) x386000 x386001 x386002 x386003 x386004) else (if x5 = true then (if (bt (rdOf ByteArray.empty x386004 x6) 0) = 45 then (if 0 ≤ (wrap64 ((x3.length : Int) - 1)) then (if (wrap64 ((x3.length : Int) - 1)) < (x3.length : Int) then (grapevineref05_Edits.l0 k (x3.set ((wrap64 ((x3.length : Int) - 1)) : Int).toNat (⟨(rd_T51 x3 (wrap64 ((x3.length : Int) - 1))).f0, wrap64 (((rd_T51 x3 (wrap64 ((x3.length : Int) - 1))).f1) + 1), (rd_T51 x3 (wrap64 ((x3.length : Int) - 1))).f2⟩ : S51)) (wrap64 (x4 + 1)) x5 (wrap64 (x6 + 1)) x386000 x386001 x386002 x386003 x386004) else (none)) else (none)) else (if 0 ≤ (wrap64 ((x3.length : Int) - 1)) then (if (wrap64 ((x3.length : Int) - 1)) < (x3.length : Int) then (if 1 ≤ ((rdOf ByteArray.empty x386004 x6).size : Int) then (if ((rd_T51 x3 (wrap64 ((x3.length : Int) - 1))).f2).length < 8796093022208 then (grapevineref05_Edits.l0 k (x3.set ((wrap64 ((x3.length : Int) - 1)) : Int).toNat (⟨(rd_T51 x3 (wrap64 ((x3.length : Int) - 1))).f0, (rd_T51 x3 (wrap64 ((x3.length : Int) - 1))).f1, (((rd_T51 x3 (wrap64 ((x3.length : Int) - 1))).f2) ++ [(rdOf ByteArray.empty x386004 x6).extract 1 (rdOf ByteArray.empty x386004 x6).size])⟩ : S51)) x4 x5 (wrap64 (x6 + 1)) x386000 x386001 x386002 x386003 x386004) else (none)) else (none)) else (none)) else (none))) else (if x3.length < 3518437208883 then ((some (x3 ++ [(⟨x4, 0, ([] : List ByteArray)⟩ : S51)] : List (S51))).bind fun y394 => (if (bt (rdOf ByteArray.empty x386004 x6) 0) = 45 then (if 0 ≤ (wrap64 ((y394.length : Int) - 1)) then (if (wrap64 ((y394.length : Int) - 1)) < (y394.length : Int) then (grapevineref05_Edits.l0 k (y394.set ((wrap64 ((y394.length : Int) - 1)) : Int).toNat (⟨(rd_T51 y394 (wrap64 ((y394.length : Int) - 1))).f0, wrap64 (((rd_T51 y394 (wrap64 ((y394.length : Int) - 1))).f1) + 1), (rd_T51 y394 (wrap64 ((y394.length : Int) - 1))).f2⟩ : S51)) (wrap64 (x4 + 1)) true (wrap64 (x6 + 1)) x386000 x386001 x386002 x386003 x386004) else (none)) else (none)) else (if 0 ≤ (wrap64 ((y394.length : Int) - 1)) then (if (wrap64 ((y394.length : Int) - 1)) < (y394.length : Int) then (if 1 ≤ ((rdOf ByteArray.empty x386004 x6).size : Int) then (if ((rd_T51 y394 (wrap64 ((y394.length : Int) - 1))).f2).length < 8796093022208 then (grapevineref05_Edits.l0 k (y394.set ((wrap64 ((y394.length : Int) - 1)) : Int).toNat (⟨(rd_T51 y394 (wrap64 ((y394.length : Int) - 1))).f0, (rd_T51 y394 (wrap64 ((y394.length : Int) - 1))).f1, (((rd_T51 y394 (wrap64 ((y394.length : Int) - 1))).f2) ++ [(rdOf ByteArray.empty x386004 x6).extract 1 (rdOf ByteArray.empty x386004 x6).size])⟩ : S51)) x4 true (wrap64 (x6 + 1)) x386000 x386001 x386002 x386003 x386004) else (none)) else (none)) else (none)) else (none)))) else (none)))) else (none)) else (none)) else (some x3)
def grapevineref05_Edits.f (k : Nat) (a0_0 : Int) (a0_1 : Int) (a0_2 : Int) (a0_3 : Int) (l0_4 : List ByteArray) : Option ((List (S51))) := grapevineref05_Edits.l0 k ([] : List (S51)) a0_0 false 0 a0_0 a0_1 a0_2 a0_3 l0_4
theorem grapevineref05_Edits.mono_l : ∀ k, (∀ y0 y1 y2 y3 y4 y5 y6 y7 y8, LeO (grapevineref05_Edits.l0 k y0 y1 y2 y3 y4 y5 y6 y7 y8) (grapevineref05_Edits.l0 (k + 1) y0 y1 y2 y3 y4 y5 y6 y7 y8))
 | 0 => fun _ _ _ _ _ _ _ _ _ r h => by simp [grapevineref05_Edits.l0] at h
 | k + 1 => by
  have ih0 := grapevineref05_Edits.mono_l k
  ·intro y0 y1 y2 y3 y4 y5 y6 y7 y8
   unfold grapevineref05_Edits.l0
   repeat' first
   | (with_reducible exact ih0 _ _ _ _ _ _ _ _ _)
   | (with_reducible exact LeO.refl _)
   | (with_reducible exact LeO.none _)
   | (with_reducible refine LeO.ite ?_ ?_)
   | (with_reducible refine LeO.bind ?_ (fun _ => ?_))
   | exact ih0 _ _ _ _ _ _ _ _ _
   | exact LeO.none _
   | refine LeO.ite ?_ ?_
   | refine LeO.bind ?_ (fun _ => ?_)
theorem grapevineref05_Edits.mono : ∀ a0 a1 a2 a3 a4 k, LeO (grapevineref05_Edits.f k a0 a1 a2 a3 a4) (grapevineref05_Edits.f (k + 1) a0 a1 a2 a3 a4) := by
 intro a0 a1 a2 a3 a4 k
 have ih0 := grapevineref05_Edits.mono_l k
 unfold grapevineref05_Edits.f
 repeat' first
   | (with_reducible exact ih0 _ _ _ _ _ _ _ _ _)
   | (with_reducible exact LeO.refl _)
   | (with_reducible exact LeO.none _)
   | (with_reducible refine LeO.ite ?_ ?_)
   | (with_reducible refine LeO.bind ?_ (fun _ => ?_))
   | exact ih0 _ _ _ _ _ _ _ _ _
   | exact LeO.none _
   | refine LeO.ite ?_ ?_
   | refine LeO.bind ?_ (fun _ => ?_)
def grapevineref05_Edits.T18 : Bool × List (List Nat × List Nat) := (true, [([], []), ([], []), ([], []), ([], []), ([2, 3], [2, 3]), ([4], [4]), ([5], [5]), ([], []), ([7], [7]), ([8], [8]), ([6, 9], [6, 9]), ([0, 1, 0, 1, 2, 3, 4, 5, 6, 7, 8, 9, 10], [0, 1]), ([11, 0, 1, 2, 3, 4, 5, 6, 7, 8, 9, 10], [11]), ([12, 10, 10, 0, 1, 2, 3, 4, 5, 6, 7, 8, 9, 10], [10, 12])])
def grapevineref05_Edits.B18 : List Nat := [0, 0, 0, 0, 12, 28, 60, 0, 128, 384, 1020, 2047, 4095, 8191]
theorem grapevineref05_Edits.tab18 : rtab .any (opsOf Try.f22 18) = grapevineref05_Edits.T18 := by kernel_rfl
theorem grapevineref05_Edits.bits18 : waitsOk grapevineref05_Edits.T18.2 grapevineref05_Edits.B18 = true := by kernel_rfl
set_option maxHeartbeats 8000000 in
set_option maxRecDepth 100000 in
theorem grapevineref05_Edits.calls (k : Nat) (a0_0 : Int) (a0_1 : Int) (a0_2 : Int) (a0_3 : Int) (A0_4 : Option Addr) (c0_4 : Nat) (l0_4 : List ByteArray) (r : List (S51)) (w : World) (hr0_4 : Kd.C Kd.string w A0_4 l0_4.length l0_4) (hc0_4 : l0_4.length ≤ c0_4) (h : grapevineref05_Edits.f k a0_0 a0_1 a0_2 a0_3 l0_4 = some r) :
  Calls Try.prog 22 #[.agg #[.int .i64 a0_0, .int .i64 a0_1, .int .i64 a0_2, .int .i64 a0_3, .slice A0_4 l0_4.length c0_4]] w fun e w' => ∃ v0_ : Value, e = .returned (v0_) ∧ Kd.S k51 51 w' w.heap.size (fun _ => True) v0_ r ∧ Below w.heap.size w w' := by
 have hu33 := Try.underlying33
 have hu51 := Try.underlying51
 have HR0_4 := Aside0.mk hr0_4
 have HC0_4 := Aside0.mk hc0_4
 clear hr0_4 hc0_4
 have HB := Aside0.mk (Below.refl w.heap.size w)
 have H : (grapevineref05_Edits.l0 k ([] : List (S51)) a0_0 false 0 a0_0 a0_1 a0_2 a0_3 l0_4) = some r := h
 clear h
 have H' := Aside0.mk H
 clear H
 go_enter Try.func22, Try.ntmps22
 go_wp2_with (first | ((with_reducible refine gate_dst (N := 1) rfl ?_); refine box_event ?hg (N := 1) ?hd (cs := #[.int .i64 a0_0, .int .i64 a0_1, .int .i64 a0_2, .int .i64 a0_3, .slice A0_4 l0_4.length c0_4]) (t := 33) ?hr ?_; (case hd => rfl); (case hg => rfl); (case hr => first | (go_simp; done) | (go_simp; rfl)); intro gb385 hg w2 hbox hb; have n0_ := Aside0.mk (below_step (by repeat (first | (with_reducible first | exact HB.out | apply below_alloc | apply pw_below_drewN | apply below_drew1) | exact HB.out)) hb); have n1_ := Aside0.mk (hbox); have n2_ := Aside0.mk ((by rw [hg]; exact (below_size (by repeat (first | (with_reducible first | exact HB.out | apply below_alloc | apply pw_below_drewN | apply below_drew1) | exact HB.out))) : w.heap.size ≤ gb385)); have n3_ := Aside0.mk ((by rw [hg]; exact (below_size (by repeat (first | (with_reducible first | exact HB.out | apply below_alloc | apply pw_below_drewN | apply below_drew1) | exact HB.out))) : w.heap.size ≤ gb385)); clear HB; have HB := n0_; have BK385 := n1_; have GW385 := n2_; have GE385 := n3_; clear n0_ n1_ n2_ n3_; clear hb hbox hg; have hcz3_0 : w2.cell? ⟨gb385, 0, none⟩ = some (.int .i64 a0_0) := (blk_cell BK385.out 0).trans rfl; have hcz3_1 : w2.cell? ⟨gb385, 1, none⟩ = some (.int .i64 a0_1) := (blk_cell BK385.out 1).trans rfl; have hcz3_2 : w2.cell? ⟨gb385, 2, none⟩ = some (.int .i64 a0_2) := (blk_cell BK385.out 2).trans rfl; have hcz3_3 : w2.cell? ⟨gb385, 3, none⟩ = some (.int .i64 a0_3) := (blk_cell BK385.out 3).trans rfl; have hcz3_4 : w2.cell? ⟨gb385, 4, none⟩ = some (.slice A0_4 l0_4.length c0_4) := (blk_cell BK385.out 4).trans rfl; have hfz3_0 := blk_frozen BK385.out 0; have hfz3_1 := blk_frozen BK385.out 1; have hfz3_2 := blk_frozen BK385.out 2; have hfz3_3 := blk_frozen BK385.out 3; have hfz3_4 := blk_frozen BK385.out 4))
 go_loopg [3, 4, 5, 6] k (fun kq v3 v4 v5 v6 w' => ∃ (x3_1 : List (S51)) (x4_1 : Int) (x5_1 : Bool) (x6_1 : Int), v4 = .int .i64 x4_1 ∧ v5 = .bool x5_1 ∧ v6 = .int .i64 x6_1 ∧ Aside0 (grapevineref05_Edits.l0 kq x3_1 x4_1 x5_1 x6_1 a0_0 a0_1 a0_2 a0_3 l0_4 = some r) ∧ Aside0 (kq ≤ k) ∧ Aside0 (Kd.S k51 51 w' w.heap.size (fun _ => True) v3 x3_1) ∧ Aside0 (w'.heap[gb385]? = some (.cells #[.int .i64 a0_0, .int .i64 a0_1, .int .i64 a0_2, .int .i64 a0_3, (.slice A0_4 l0_4.length c0_4)] 33 (0, 0))) ∧ Aside0 (Below w.heap.size w w'))
 case atStart => exact ⟨(([] : List (S51))), (a0_0), (false), (0), (by first | rfl | (simp; done) | (simp [*]; done)), (by first | rfl | (simp; done) | (simp [*]; done)), (by first | rfl | (simp; done) | (simp [*]; done)), H', ⟨Nat.le_refl _⟩, ⟨by first | exact Kd.S_nil _ _ _ _ _ | exact Kd.N_nil _ _ _ _ _ | exact Kd.V_nil _ _ _ _ _ | exact Kd.Q_nil _ _ _ _ _ | exact Kd.R_nil _ _ _ _ _⟩, ⟨by (with_reducible repeat (first | refine blk_drewN ?_ _ | refine blk_drew ?_ | refine blk_alloc ?_ _)); exact BK385.out⟩, ⟨by repeat (first | (with_reducible first | exact HB.out | apply below_alloc | apply pw_below_drewN | apply below_drew1 | refine below_set ?_ GE385.out) | exact HB.out)⟩⟩
 case round =>
  clear H'
  try clear c2
  try clear p2
  try clear hcz3_0
  try clear hcz3_1
  try clear hcz3_2
  try clear hcz3_3
  try clear hcz3_4
  try clear hfz3_0
  try clear hfz3_1
  try clear hfz3_2
  try clear hfz3_3
  try clear hfz3_4
  obtain ⟨x3_1, x4_1, x5_1, x6_1, rfl, rfl, rfl, HA, HK1, HO_3, BK385, HB⟩ := hrel
  cases gk with
  | zero => exact absurd HA.out (by simp [grapevineref05_Edits.l0])
  | succ k1 =>
   have H := HA.out
   clear HA
   simp only [grapevineref05_Edits.l0] at H
   by_cases c4 : x6_1 < (l0_4.length : Int)
   ·rw [if_pos c4] at H
    have c4b0 : decide (x6_1 < (l0_4.length : Int)) = true := decide_eq_true c4
    clear c4
    by_cases c5 : 0 ≤ x6_1
    ·rw [if_pos c5] at H
     have c5b0 : decide (0 ≤ x6_1) = true := decide_eq_true c5
     clear c5
     by_cases c6 : 0 < ((rdOf ByteArray.empty l0_4 x6_1).size : Int)
     ·rw [if_pos c6] at H
      have c6b0 : decide (0 < ((rdOf ByteArray.empty l0_4 x6_1).size : Int)) = true := decide_eq_true c6
      have c6b1 : decide (0 < (rdOf ByteArray.empty l0_4 x6_1).size) = true := decide_eq_true (by omega)
      clear c6
      by_cases c8 : (bt (rdOf ByteArray.empty l0_4 x6_1) 0) = 32
      ·rw [if_pos c8] at H
       have c8b0 : ((bt (rdOf ByteArray.empty l0_4 x6_1) 0) == 32) = true := beq_iff_eq.mpr c8
       have c8b1 : ((bt (rdOf ByteArray.empty l0_4 x6_1) 0) != 32) = false := bne_eq_false_iff_eq.mpr c8
       clear c8
       have H' := Aside0.mk H
       clear H
       have hcz9_0 : wr.cell? ⟨gb385, 0, none⟩ = some (.int .i64 a0_0) := (blk_cell BK385.out 0).trans rfl
       have hcz9_1 : wr.cell? ⟨gb385, 1, none⟩ = some (.int .i64 a0_1) := (blk_cell BK385.out 1).trans rfl
       have hcz9_2 : wr.cell? ⟨gb385, 2, none⟩ = some (.int .i64 a0_2) := (blk_cell BK385.out 2).trans rfl
       have hcz9_3 : wr.cell? ⟨gb385, 3, none⟩ = some (.int .i64 a0_3) := (blk_cell BK385.out 3).trans rfl
       have hcz9_4 : wr.cell? ⟨gb385, 4, none⟩ = some (.slice A0_4 l0_4.length c0_4) := (blk_cell BK385.out 4).trans rfl
       have hfz9_0 := blk_frozen BK385.out 0
       have hfz9_1 := blk_frozen BK385.out 1
       have hfz9_2 := blk_frozen BK385.out 2
       have hfz9_3 := blk_frozen BK385.out 3
       have hfz9_4 := blk_frozen BK385.out 4
       have p386 : 0 ≤ (x6_1 : Int) := of_decide_eq_true (by first | (with_reducible assumption) | assumption)
       have q386 : x6_1 < (l0_4.length : Int) := of_decide_eq_true (by first | (with_reducible assumption) | assumption)
       obtain ⟨ad386, e386, hx386_0⟩ := Kd.at_string HR0_4.out x6_1 p386 q386
       cases e386
       replace hx386_0 := (HB.out.cell (World.block_lt_of_cell? w _ hx386_0)).trans hx386_0
       replace p386 := eq_true p386
       replace q386 := eq_true q386
       have p7 : 0 ≤ (0 : Int) := (by omega)
       have q7 : 0 < (rdOf ByteArray.empty l0_4 x6_1).size := (by have : (0 : Int) < ((rdOf ByteArray.empty l0_4 x6_1).size : Int) := of_decide_eq_true (by first | (with_reducible assumption) | assumption); omega)
       have hx7 : ∀ h : 0 < (rdOf ByteArray.empty l0_4 x6_1).size, (((rdOf ByteArray.empty l0_4 x6_1)[0]'h).toNat : Int) = bt (rdOf ByteArray.empty l0_4 x6_1) 0 := bt_at (rdOf ByteArray.empty l0_4 x6_1) 0
       clear p7
       have qi7 : (0 < ((rdOf ByteArray.empty l0_4 x6_1).size : Int)) = True := eq_true (of_decide_eq_true (by first | (with_reducible assumption) | assumption))
       replace q7 := eq_true q7
       go_wp2
       go_roundg k1
       case measure => have := HK1.out; omega
       case rel => exact ⟨(x3_1), (wrap64 (x4_1 + 1)), (false), (wrap64 (x6_1 + 1)), (by first | rfl | (simp; done) | (simp [*]; done)), (by first | rfl | (simp; done) | (simp [*]; done)), (by first | rfl | (simp; done) | (simp [*]; done)), H', ⟨by have := HK1.out; omega⟩, ⟨by (with_reducible repeat (first | apply Kd.S_alloc | apply Kd.S_drewN | apply Kd.S_drew)); exact HO_3.out⟩, ⟨by (with_reducible repeat (first | refine blk_drewN ?_ _ | refine blk_drew ?_ | refine blk_alloc ?_ _)); exact BK385.out⟩, ⟨by repeat (first | (with_reducible first | exact HB.out | apply below_alloc | apply pw_below_drewN | apply below_drew1 | refine below_set ?_ GE385.out) | exact HB.out)⟩⟩
      ·rw [if_neg c8] at H
       have c8b0 : ((bt (rdOf ByteArray.empty l0_4 x6_1) 0) == 32) = false := beq_eq_false_iff_ne.mpr c8
       have c8b1 : ((bt (rdOf ByteArray.empty l0_4 x6_1) 0) != 32) = true := bne_iff_ne.mpr c8
       by_cases c10 : x5_1 = true
       ·subst c10
        have H1 : (if (bt (rdOf ByteArray.empty l0_4 x6_1) 0) = 45 then (if 0 ≤ (wrap64 ((x3_1.length : Int) - 1)) then (if (wrap64 ((x3_1.length : Int) - 1)) < (x3_1.length : Int) then (grapevineref05_Edits.l0 k1 (x3_1.set ((wrap64 ((x3_1.length : Int) - 1)) : Int).toNat (⟨(rd_T51 x3_1 (wrap64 ((x3_1.length : Int) - 1))).f0, wrap64 (((rd_T51 x3_1 (wrap64 ((x3_1.length : Int) - 1))).f1) + 1), (rd_T51 x3_1 (wrap64 ((x3_1.length : Int) - 1))).f2⟩ : S51)) (wrap64 (x4_1 + 1)) true (wrap64 (x6_1 + 1)) a0_0 a0_1 a0_2 a0_3 l0_4) else (none)) else (none)) else (if 0 ≤ (wrap64 ((x3_1.length : Int) - 1)) then (if (wrap64 ((x3_1.length : Int) - 1)) < (x3_1.length : Int) then (if 1 ≤ ((rdOf ByteArray.empty l0_4 x6_1).size : Int) then (if ((rd_T51 x3_1 (wrap64 ((x3_1.length : Int) - 1))).f2).length < 8796093022208 then (grapevineref05_Edits.l0 k1 (x3_1.set ((wrap64 ((x3_1.length : Int) - 1)) : Int).toNat (⟨(rd_T51 x3_1 (wrap64 ((x3_1.length : Int) - 1))).f0, (rd_T51 x3_1 (wrap64 ((x3_1.length : Int) - 1))).f1, (((rd_T51 x3_1 (wrap64 ((x3_1.length : Int) - 1))).f2) ++ [(rdOf ByteArray.empty l0_4 x6_1).extract 1 (rdOf ByteArray.empty l0_4 x6_1).size])⟩ : S51)) x4_1 true (wrap64 (x6_1 + 1)) a0_0 a0_1 a0_2 a0_3 l0_4) else (none)) else (none)) else (none)) else (none))) = some r := by rw [if_pos rfl] at H; exact H
        clear H
        have H := H1
        clear H1
        by_cases c12 : (bt (rdOf ByteArray.empty l0_4 x6_1) 0) = 45
        ·rw [if_pos c12] at H
         have c12b0 : ((bt (rdOf ByteArray.empty l0_4 x6_1) 0) == 45) = true := beq_iff_eq.mpr c12
         have c12b1 : ((bt (rdOf ByteArray.empty l0_4 x6_1) 0) != 45) = false := bne_eq_false_iff_eq.mpr c12
         clear c12
         obtain ⟨ji13, hji13⟩ : ∃ j_ : Int, (wrap64 ((x3_1.length : Int) - 1)) = j_ := ⟨_, rfl⟩
         replace H : (if 0 ≤ (ji13) then (if (ji13) < (x3_1.length : Int) then (grapevineref05_Edits.l0 k1 (x3_1.set ((ji13) : Int).toNat (⟨(rd_T51 x3_1 (ji13)).f0, wrap64 (((rd_T51 x3_1 (ji13)).f1) + 1), (rd_T51 x3_1 (ji13)).f2⟩ : S51)) (wrap64 (x4_1 + 1)) true (wrap64 (x6_1 + 1)) a0_0 a0_1 a0_2 a0_3 l0_4) else (none)) else (none)) = some r := by first | (rw [hji13] at H; exact H) | (simp only [hji13] at H ⊢; exact H)
         have hji13w : (IntKind.i64.wrap ((x3_1.length : Int) - 1)) = ji13 := (i64_w _).trans hji13
         by_cases c14 : 0 ≤ (ji13)
         ·rw [if_pos c14] at H
          have c14b0 : decide (0 ≤ (ji13)) = true := decide_eq_true c14
          clear c14
          by_cases c15 : (ji13) < (x3_1.length : Int)
          ·rw [if_pos c15] at H
           have c15b0 : decide ((ji13) < (x3_1.length : Int)) = true := decide_eq_true c15
           clear c15
           obtain ⟨y388, hy388⟩ : ∃ y_ : List (S51), y_ = (x3_1.set ((ji13) : Int).toNat (⟨(rd_T51 x3_1 (ji13)).f0, wrap64 (((rd_T51 x3_1 (ji13)).f1) + 1), (rd_T51 x3_1 (ji13)).f2⟩ : S51)) := ⟨_, rfl⟩
           replace H : (grapevineref05_Edits.l0 k1 y388 (wrap64 (x4_1 + 1)) true (wrap64 (x6_1 + 1)) a0_0 a0_1 a0_2 a0_3 l0_4) = some r := by first | (rw [hy388]; with_reducible exact H) | (have H2_ := (Option.bind_some _ _).symm.trans H; rw [hy388]; with_reducible exact H2_) | (have H2_ := (Option.bind_some _ _).symm.trans H; with_reducible exact H2_) | with_reducible exact H | (rw [hy388]; exact H) | exact H
           have Ny388 := Aside0.mk hy388
           clear hy388
           have H' := Aside0.mk H
           clear H
           have hcz17_0 : wr.cell? ⟨gb385, 0, none⟩ = some (.int .i64 a0_0) := (blk_cell BK385.out 0).trans rfl
           have hcz17_1 : wr.cell? ⟨gb385, 1, none⟩ = some (.int .i64 a0_1) := (blk_cell BK385.out 1).trans rfl
           have hcz17_2 : wr.cell? ⟨gb385, 2, none⟩ = some (.int .i64 a0_2) := (blk_cell BK385.out 2).trans rfl
           have hcz17_3 : wr.cell? ⟨gb385, 3, none⟩ = some (.int .i64 a0_3) := (blk_cell BK385.out 3).trans rfl
           have hcz17_4 : wr.cell? ⟨gb385, 4, none⟩ = some (.slice A0_4 l0_4.length c0_4) := (blk_cell BK385.out 4).trans rfl
           have hfz17_0 := blk_frozen BK385.out 0
           have hfz17_1 := blk_frozen BK385.out 1
           have hfz17_2 := blk_frozen BK385.out 2
           have hfz17_3 := blk_frozen BK385.out 3
           have hfz17_4 := blk_frozen BK385.out 4
           have p386 : 0 ≤ (x6_1 : Int) := of_decide_eq_true (by first | (with_reducible assumption) | assumption)
           have q386 : x6_1 < (l0_4.length : Int) := of_decide_eq_true (by first | (with_reducible assumption) | assumption)
           obtain ⟨ad386, e386, hx386_0⟩ := Kd.at_string HR0_4.out x6_1 p386 q386
           cases e386
           replace hx386_0 := (HB.out.cell (World.block_lt_of_cell? w _ hx386_0)).trans hx386_0
           replace p386 := eq_true p386
           replace q386 := eq_true q386
           have p7 : 0 ≤ (0 : Int) := (by omega)
           have q7 : 0 < (rdOf ByteArray.empty l0_4 x6_1).size := (by have : (0 : Int) < ((rdOf ByteArray.empty l0_4 x6_1).size : Int) := of_decide_eq_true (by first | (with_reducible assumption) | assumption); omega)
           have hx7 : ∀ h : 0 < (rdOf ByteArray.empty l0_4 x6_1).size, (((rdOf ByteArray.empty l0_4 x6_1)[0]'h).toNat : Int) = bt (rdOf ByteArray.empty l0_4 x6_1) 0 := bt_at (rdOf ByteArray.empty l0_4 x6_1) 0
           clear p7
           have qi7 : (0 < ((rdOf ByteArray.empty l0_4 x6_1).size : Int)) = True := eq_true (of_decide_eq_true (by first | (with_reducible assumption) | assumption))
           replace q7 := eq_true q7
           obtain ⟨Ao18, co18, eo18⟩ := Kd.S_slice HO_3.out
           subst eo18
           have p11 : 0 ≤ (0 : Int) := (by omega)
           have q11 : 0 < (rdOf ByteArray.empty l0_4 x6_1).size := (by have : (0 : Int) < ((rdOf ByteArray.empty l0_4 x6_1).size : Int) := of_decide_eq_true (by first | (with_reducible assumption) | assumption); omega)
           have hx11 : ∀ h : 0 < (rdOf ByteArray.empty l0_4 x6_1).size, (((rdOf ByteArray.empty l0_4 x6_1)[0]'h).toNat : Int) = bt (rdOf ByteArray.empty l0_4 x6_1) 0 := bt_at (rdOf ByteArray.empty l0_4 x6_1) 0
           clear p11
           have qi11 : (0 < ((rdOf ByteArray.empty l0_4 x6_1).size : Int)) = True := eq_true (of_decide_eq_true (by first | (with_reducible assumption) | assumption))
           replace q11 := eq_true q11
           have p387 : 0 ≤ ((ji13) : Int) := of_decide_eq_true (by first | (with_reducible assumption) | assumption)
           have q387 : (ji13) < (x3_1.length : Int) := of_decide_eq_true (by first | (with_reducible assumption) | assumption)
           obtain ⟨ad387, A387_2, c387_2, e387, hx387_0, hx387_1, hx387_2, hl387_2, hi387_2⟩ := at_T51 (Kd.S_reads' HO_3.out).2.2 (ji13) p387 q387
           cases e387
           obtain ⟨ce387, hce387, hMe387, hcc387⟩ := Kd.S_get HO_3.out z51 (ji13) p387 (by first | exact q387 | exact of_decide_eq_true (by first | (with_reducible assumption) | assumption) | (have e_ := (Kd.S_reads' HO_3.out).1; omega))
           obtain ⟨ve387_2, rfl, ge387_2⟩ := k51_openM hMe387
           have hv387_2 := hcc387 2 _ rfl
           rw [add_field _ _ 2 (by omega)] at hv387_2
           replace hv387_2 := Option.some.inj (hv387_2.symm.trans hx387_2)
           rw [hv387_2] at ge387_2
           have HL387_2 := Aside0.mk (show Kd.R Kd.string 9 _ _ _ _ ((rd_T51 x3_1 (ji13)).f2) from ge387_2)
           clear hv387_2 ge387_2
           have HX387_2 := Aside0.mk hx387_2
           clear hcc387 hce387
           have HR387_2 := Aside0.mk hi387_2
           have HC387_2 := Aside0.mk hl387_2
           clear hi387_2 hl387_2
           replace p387 := eq_true p387
           replace q387 := eq_true q387
           have p16 : 0 ≤ ((ji13) : Int) := of_decide_eq_true (by first | (with_reducible assumption) | assumption)
           have q16 : ((ji13) : Int) < ((x3_1.length : Int) : Int) := of_decide_eq_true (by first | (with_reducible assumption) | assumption)
           obtain ⟨go16, co16, eo16, gb16, gl16, cl16, HG16⟩ := Kd.S_form HO_3.out (by omega)
           (first | cases eo16 | (injection eo16 with ea_ en_ ec_; (first | subst ea_ | (injection ea_ with ea_; subst ea_)); subst ec_; clear en_))
           have GB16 := Aside0.mk gb16
           have GG16 := Aside0.mk HG16
           clear gb16 gl16 HG16
           (first | simp only [add_plain] at hx387_0 | skip)
           (first | simp only [add_plain] at hx387_1 | skip)
           (first | simp only [add_plain] at hx387_2 | skip)
           obtain ⟨_, ce16, hcl16, hM16, hcc16, hfr16, _, _⟩ := Kd.S_elem HO_3.out z51 ((ji13) : Int) p16 q16
           obtain ⟨ve16_2, rfl, ge16_2⟩ := k51_openM hM16
           have hx16_0 : wr.cell? ⟨go16, ((ji13) : Int).toNat * 3, none⟩ = some (.int .i64 ((rd_T51 x3_1 (ji13)).f0)) := hcc16 0 _ rfl
           have hx16_1 : wr.cell? ⟨go16, ((ji13) : Int).toNat * 3 + 1, none⟩ = some (.int .i64 ((rd_T51 x3_1 (ji13)).f1)) := hcc16 1 _ rfl
           have hx16_2 : wr.cell? ⟨go16, ((ji13) : Int).toNat * 3 + 2, none⟩ = some (ve16_2) := hcc16 2 _ rfl
           have hf16_0 : wr.frozen? ⟨go16, ((ji13) : Int).toNat * 3, none⟩ = false := hfr16 0
           have hf16_1 : wr.frozen? ⟨go16, ((ji13) : Int).toNat * 3 + 1, none⟩ = false := hfr16 1
           have hf16_2 : wr.frozen? ⟨go16, ((ji13) : Int).toNat * 3 + 2, none⟩ = false := hfr16 2
           (try clear hcl16); (try clear hcc16); (try clear hfr16); (try clear hM16)
           replace p16 := eq_true p16
           replace q16 := eq_true q16
           have HX19 := Aside0.mk (show Kd.S k51 51 wr w.heap.size (fun k_ => ((fun _ => True)) k_ ∧ ¬ ((fun _ => False)) k_) (.slice (some ⟨go16, 0, none⟩) x3_1.length co18) x3_1 from (by (with_reducible repeat (first | apply Kd.S_alloc | apply Kd.S_drewN | apply Kd.S_drew)); exact Kd.S_mono HO_3.out (fun k_ hk => ⟨trivial, fun e_ => e_⟩)))
           obtain ⟨oki19, ce19, hcl19, hM19, hcc19, hfr19, hoki19, hH19⟩ := Kd.S_elem HX19.out z51 ((ji13) : Int) (of_decide_eq_true (by first | (with_reducible assumption) | assumption)) (by have h_ : ((ji13) : Int) < ((x3_1.length : Int) : Int) := of_decide_eq_true (by first | (with_reducible assumption) | assumption); first | exact h_ | (have e_ := (Kd.S_reads' HO_3.out).1; omega) | simpa using h_)
           obtain ⟨ve19_2, rfl, ge19_2⟩ := k51_openM hM19
           have HP19 := Kd.S_seg hH19 (of_decide_eq_true (by first | (with_reducible assumption) | assumption)) (by have h_ : ((ji13) : Int) < ((x3_1.length : Int) : Int) := of_decide_eq_true (by first | (with_reducible assumption) | assumption); first | exact h_ | (have e_ := (Kd.S_reads' HO_3.out).1; omega) | simpa using h_) (seg := [.int .i64 (wrap64 (((rd_T51 x3_1 (ji13)).f1) + 1))]) (j := 1) (show 2 ≤ 3 from by decide) (x' := (⟨(rd_T51 x3_1 (ji13)).f0, wrap64 (((rd_T51 x3_1 (ji13)).f1) + 1), (rd_T51 x3_1 (ji13)).f2⟩ : S51)) (k51_mkM _ _ _ (⟨(rd_T51 x3_1 (ji13)).f0, wrap64 (((rd_T51 x3_1 (ji13)).f1) + 1), (rd_T51 x3_1 (ji13)).f2⟩ : S51) (Kd.R_mono ge19_2 (fun _ h_ => Or.inl h_))) (fun _ hk => hk) (fun k_ hk_ => hk_.elim)
           have hx19_1 := hcc19 1 _ rfl
           (try simp only [show (k51).sz = 3 from rfl, Nat.mul_one, Nat.add_zero] at hx19_1)
           have hf19_1 := hfr19 1
           (try simp only [show (k51).sz = 3 from rfl, Nat.mul_one, Nat.add_zero] at hf19_1)
           (try clear hcl19); (try clear hcc19); (try clear hfr19); (try clear hM19); (try clear hoki19); (try clear hH19)
           go_wp2_with (first | ((with_reducible refine gate_store (t := 3) (p := 50) rfl ?_); refine store_event (t := 3) (p := 50) (v := ?vo_w20) (w1 := (wr.setCell ⟨go16, ((ji13) : Int).toNat * 3 + 1, none⟩ (.int .i64 (wrap64 (((rd_T51 x3_1 (ji13)).f1) + 1))))) ?hg ?ho ?hn ?hr ?_; (case ho => rfl); (case hg => rfl); (case hn => rfl); (case hr => first | (go_simp; done) | (go_simp; rfl)); intro w20 hw; have hg : wr.grownBy w20 (some go16) := (by rw [hw]; exact HP19.2); have hp_ : Kd.S k51 51 w20 w.heap.size (fun _ => True) (.slice (some ⟨go16, 0, none⟩) x3_1.length co18) y388 := (by rw [hw, Ny388.out]; exact HP19.1); clear HP19; have n0_ := Aside0.mk (hp_); have n1_ := Aside0.mk (blk_grown (g := gb385) (o := .cells #[.int .i64 a0_0, .int .i64 a0_1, .int .i64 a0_2, .int .i64 a0_3, .slice (some ad386) l0_4.length c0_4] 33 (0, 0)) (by (with_reducible repeat (first | refine blk_drewN ?_ _ | refine blk_drew ?_ | refine blk_alloc ?_ _)); exact BK385.out) hg (Kd.S_ne HO_3.out BK385.out (by decide))); have n2_ := Aside0.mk (Kd.R_after (v := (.slice (some ⟨go16, 0, none⟩) x3_1.length co18)) (v1 := (.slice (some ⟨go16, 0, none⟩) x3_1.length co18)) (ok := (fun _ => True)) (by (with_reducible repeat (first | apply Kd.R_alloc | apply Kd.R_drewN | apply Kd.R_drew)); exact HL387_2.out) hg (.inl rfl)); have n3_ := Aside0.mk ((by rw [hw]; exact below_set (HB.out) GB16.out : Below w.heap.size w w20)); clear HO_3; clear BK385; clear HL387_2; clear HB; have HO_3 := n0_; have BK385 := n1_; have HL387_2 := n2_; have HB := n3_; clear n0_ n1_ n2_ n3_; clear hg hw hp_))
           go_roundg k1
           case measure => have := HK1.out; omega
           case rel => exact ⟨(y388), (wrap64 (x4_1 + 1)), (true), (wrap64 (x6_1 + 1)), (by first | rfl | (simp; done) | (simp [*]; done)), (by first | rfl | (simp; done) | (simp [*]; done)), (by first | rfl | (simp; done) | (simp [*]; done)), H', ⟨by have := HK1.out; omega⟩, ⟨by (with_reducible repeat (first | apply Kd.S_alloc | apply Kd.S_drewN | apply Kd.S_drew)); exact HO_3.out⟩, ⟨by (with_reducible repeat (first | refine blk_drewN ?_ _ | refine blk_drew ?_ | refine blk_alloc ?_ _)); exact BK385.out⟩, ⟨by repeat (first | (with_reducible first | exact HB.out | apply below_alloc | apply pw_below_drewN | apply below_drew1 | refine below_set ?_ GE385.out) | exact HB.out)⟩⟩
          ·rw [if_neg c15] at H
           exact absurd H (by simp)
         ·rw [if_neg c14] at H
          exact absurd H (by simp)
        ·rw [if_neg c12] at H
         have c12b0 : ((bt (rdOf ByteArray.empty l0_4 x6_1) 0) == 45) = false := beq_eq_false_iff_ne.mpr c12
         have c12b1 : ((bt (rdOf ByteArray.empty l0_4 x6_1) 0) != 45) = true := bne_iff_ne.mpr c12
         try clear hji13w
         obtain ⟨ji21, hji21⟩ : ∃ j_ : Int, (wrap64 ((x3_1.length : Int) - 1)) = j_ := ⟨_, rfl⟩
         replace H : (if 0 ≤ (ji21) then (if (ji21) < (x3_1.length : Int) then (if 1 ≤ ((rdOf ByteArray.empty l0_4 x6_1).size : Int) then (if ((rd_T51 x3_1 (ji21)).f2).length < 8796093022208 then (grapevineref05_Edits.l0 k1 (x3_1.set ((ji21) : Int).toNat (⟨(rd_T51 x3_1 (ji21)).f0, (rd_T51 x3_1 (ji21)).f1, (((rd_T51 x3_1 (ji21)).f2) ++ [(rdOf ByteArray.empty l0_4 x6_1).extract 1 (rdOf ByteArray.empty l0_4 x6_1).size])⟩ : S51)) x4_1 true (wrap64 (x6_1 + 1)) a0_0 a0_1 a0_2 a0_3 l0_4) else (none)) else (none)) else (none)) else (none)) = some r := by first | (rw [hji21] at H; exact H) | (simp only [hji21] at H ⊢; exact H)
         have hji21w : (IntKind.i64.wrap ((x3_1.length : Int) - 1)) = ji21 := (i64_w _).trans hji21
         by_cases c22 : 0 ≤ (ji21)
         ·rw [if_pos c22] at H
          have c22b0 : decide (0 ≤ (ji21)) = true := decide_eq_true c22
          clear c22
          by_cases c23 : (ji21) < (x3_1.length : Int)
          ·rw [if_pos c23] at H
           have c23b0 : decide ((ji21) < (x3_1.length : Int)) = true := decide_eq_true c23
           clear c23
           by_cases c24 : 1 ≤ ((rdOf ByteArray.empty l0_4 x6_1).size : Int)
           ·rw [if_pos c24] at H
            have c24b0 := eq_true c24
            have c24b1 : decide (1 ≤ ((rdOf ByteArray.empty l0_4 x6_1).size : Int)) = true := decide_eq_true c24
            clear c24
            by_cases c25 : ((rd_T51 x3_1 (ji21)).f2).length < 8796093022208
            ·rw [if_pos c25] at H
             have LMc25 := Aside0.mk c25
             clear c25
             obtain ⟨y390, hy390⟩ : ∃ y_ : List ByteArray, y_ = (((rd_T51 x3_1 (ji21)).f2) ++ [(rdOf ByteArray.empty l0_4 x6_1).extract 1 (rdOf ByteArray.empty l0_4 x6_1).size]) := ⟨_, rfl⟩
             replace H : (grapevineref05_Edits.l0 k1 (x3_1.set ((ji21) : Int).toNat (⟨(rd_T51 x3_1 (ji21)).f0, (rd_T51 x3_1 (ji21)).f1, y390⟩ : S51)) x4_1 true (wrap64 (x6_1 + 1)) a0_0 a0_1 a0_2 a0_3 l0_4) = some r := by first | (rw [hy390]; with_reducible exact H) | (have H2_ := (Option.bind_some _ _).symm.trans H; rw [hy390]; with_reducible exact H2_) | (have H2_ := (Option.bind_some _ _).symm.trans H; with_reducible exact H2_) | with_reducible exact H | (rw [hy390]; exact H) | exact H
             have Ny390 := Aside0.mk hy390
             clear hy390
             obtain ⟨y393, hy393⟩ : ∃ y_ : List (S51), y_ = (x3_1.set ((ji21) : Int).toNat (⟨(rd_T51 x3_1 (ji21)).f0, (rd_T51 x3_1 (ji21)).f1, y390⟩ : S51)) := ⟨_, rfl⟩
             replace H : (grapevineref05_Edits.l0 k1 y393 x4_1 true (wrap64 (x6_1 + 1)) a0_0 a0_1 a0_2 a0_3 l0_4) = some r := by first | (rw [hy393]; with_reducible exact H) | (have H2_ := (Option.bind_some _ _).symm.trans H; rw [hy393]; with_reducible exact H2_) | (have H2_ := (Option.bind_some _ _).symm.trans H; with_reducible exact H2_) | with_reducible exact H | (rw [hy393]; exact H) | exact H
             have Ny393 := Aside0.mk hy393
             clear hy393
             have H' := Aside0.mk H
             clear H
             have hcz27_0 : wr.cell? ⟨gb385, 0, none⟩ = some (.int .i64 a0_0) := (blk_cell BK385.out 0).trans rfl
             have hcz27_1 : wr.cell? ⟨gb385, 1, none⟩ = some (.int .i64 a0_1) := (blk_cell BK385.out 1).trans rfl
             have hcz27_2 : wr.cell? ⟨gb385, 2, none⟩ = some (.int .i64 a0_2) := (blk_cell BK385.out 2).trans rfl
             have hcz27_3 : wr.cell? ⟨gb385, 3, none⟩ = some (.int .i64 a0_3) := (blk_cell BK385.out 3).trans rfl
             have hcz27_4 : wr.cell? ⟨gb385, 4, none⟩ = some (.slice A0_4 l0_4.length c0_4) := (blk_cell BK385.out 4).trans rfl
             have hfz27_0 := blk_frozen BK385.out 0
             have hfz27_1 := blk_frozen BK385.out 1
             have hfz27_2 := blk_frozen BK385.out 2
             have hfz27_3 := blk_frozen BK385.out 3
             have hfz27_4 := blk_frozen BK385.out 4
             have p386 : 0 ≤ (x6_1 : Int) := of_decide_eq_true (by first | (with_reducible assumption) | assumption)
             have q386 : x6_1 < (l0_4.length : Int) := of_decide_eq_true (by first | (with_reducible assumption) | assumption)
             obtain ⟨ad386, e386, hx386_0⟩ := Kd.at_string HR0_4.out x6_1 p386 q386
             cases e386
             replace hx386_0 := (HB.out.cell (World.block_lt_of_cell? w _ hx386_0)).trans hx386_0
             replace p386 := eq_true p386
             replace q386 := eq_true q386
             have p7 : 0 ≤ (0 : Int) := (by omega)
             have q7 : 0 < (rdOf ByteArray.empty l0_4 x6_1).size := (by have : (0 : Int) < ((rdOf ByteArray.empty l0_4 x6_1).size : Int) := of_decide_eq_true (by first | (with_reducible assumption) | assumption); omega)
             have hx7 : ∀ h : 0 < (rdOf ByteArray.empty l0_4 x6_1).size, (((rdOf ByteArray.empty l0_4 x6_1)[0]'h).toNat : Int) = bt (rdOf ByteArray.empty l0_4 x6_1) 0 := bt_at (rdOf ByteArray.empty l0_4 x6_1) 0
             clear p7
             have qi7 : (0 < ((rdOf ByteArray.empty l0_4 x6_1).size : Int)) = True := eq_true (of_decide_eq_true (by first | (with_reducible assumption) | assumption))
             replace q7 := eq_true q7
             obtain ⟨Ao28, co28, eo28⟩ := Kd.S_slice HO_3.out
             subst eo28
             have p11 : 0 ≤ (0 : Int) := (by omega)
             have q11 : 0 < (rdOf ByteArray.empty l0_4 x6_1).size := (by have : (0 : Int) < ((rdOf ByteArray.empty l0_4 x6_1).size : Int) := of_decide_eq_true (by first | (with_reducible assumption) | assumption); omega)
             have hx11 : ∀ h : 0 < (rdOf ByteArray.empty l0_4 x6_1).size, (((rdOf ByteArray.empty l0_4 x6_1)[0]'h).toNat : Int) = bt (rdOf ByteArray.empty l0_4 x6_1) 0 := bt_at (rdOf ByteArray.empty l0_4 x6_1) 0
             clear p11
             have qi11 : (0 < ((rdOf ByteArray.empty l0_4 x6_1).size : Int)) = True := eq_true (of_decide_eq_true (by first | (with_reducible assumption) | assumption))
             replace q11 := eq_true q11
             try go_wp2
             have n0_ := Aside0.mk (Kd.S_drew HO_3.out)
             have n1_ := Aside0.mk (blk_drew BK385.out)
             have n2_ := Aside0.mk (below_drew1 HB.out)
             clear HO_3
             clear BK385
             clear HB
             have HO_3 := n0_
             have BK385 := n1_
             have HB := n2_
             clear n0_ n1_ n2_
             have p389 : 0 ≤ ((ji21) : Int) := of_decide_eq_true (by first | (with_reducible assumption) | assumption)
             have q389 : (ji21) < (x3_1.length : Int) := of_decide_eq_true (by first | (with_reducible assumption) | assumption)
             obtain ⟨ad389, A389_2, c389_2, e389, hx389_0, hx389_1, hx389_2, hl389_2, hi389_2⟩ := at_T51 (Kd.S_reads' HO_3.out).2.2 (ji21) p389 q389
             cases e389
             obtain ⟨ce389, hce389, hMe389, hcc389⟩ := Kd.S_get HO_3.out z51 (ji21) p389 (by first | exact q389 | exact of_decide_eq_true (by first | (with_reducible assumption) | assumption) | (have e_ := (Kd.S_reads' HO_3.out).1; omega))
             obtain ⟨ve389_2, rfl, ge389_2⟩ := k51_openM hMe389
             have hv389_2 := hcc389 2 _ rfl
             rw [add_field _ _ 2 (by omega)] at hv389_2
             replace hv389_2 := Option.some.inj (hv389_2.symm.trans hx389_2)
             rw [hv389_2] at ge389_2
             have HL389_2 := Aside0.mk (show Kd.R Kd.string 9 _ _ _ _ ((rd_T51 x3_1 (ji21)).f2) from ge389_2)
             clear hv389_2 ge389_2
             have HX389_2 := Aside0.mk hx389_2
             clear hcc389 hce389
             have HR389_2 := Aside0.mk hi389_2
             have HC389_2 := Aside0.mk hl389_2
             clear hi389_2 hl389_2
             replace p389 := eq_true p389
             replace q389 := eq_true q389
             obtain ⟨go30, co30, eo30, gb30, gl30, cl30, HG30⟩ := Kd.S_form HO_3.out (by have h_ : ((ji21) : Int) < ((x3_1.length : Int) : Int) := of_decide_eq_true (by first | (with_reducible assumption) | assumption); have h2_ : 0 ≤ ((ji21) : Int) := (of_decide_eq_true (by first | (with_reducible assumption) | assumption)); omega)
             (first | cases eo30 | (injection eo30 with ea_ en_ ec_; (first | subst ea_ | (injection ea_ with ea_; subst ea_)); subst ec_; clear en_))
             have GB30 := Aside0.mk gb30
             have GG30 := Aside0.mk HG30
             clear gb30 gl30 HG30
             (first | simp only [add_plain] at hx389_0 | skip)
             (first | simp only [add_plain] at hx389_1 | skip)
             (first | simp only [add_plain] at hx389_2 | skip)
             obtain ⟨oki30, ce30, hcl30, hM30, hcc30, _, _, hH30⟩ := Kd.S_elem HO_3.out z51 ((ji21) : Int) (of_decide_eq_true (by first | (with_reducible assumption) | assumption)) (by have h_ : ((ji21) : Int) < ((x3_1.length : Int) : Int) := of_decide_eq_true (by first | (with_reducible assumption) | assumption); first | exact h_ | (have e_ := (Kd.S_reads' HO_3.out).1; omega) | simpa using h_)
             obtain ⟨ve30_2, rfl, ge30_2⟩ := k51_openM hM30
             have hv30 := hcc30 2 _ rfl
             have hX30 := HX389_2.out
             (try simp only [add_plain] at hX30)
             (try simp only [Nat.add_zero] at hv30)
             replace hv30 := Option.some.inj (hv30.symm.trans hX30)
             subst hv30
             clear hX30 hcc30 hcl30
             have UU30 := Aside0.mk (show Kd.R Kd.string 9 _ w.heap.size oki30 (.slice A389_2 ((rd_T51 x3_1 (ji21)).f2).length c389_2) ((rd_T51 x3_1 (ji21)).f2) from ge30_2)
             have HH30 := Aside0.mk hH30
             have HN30 := Aside0.mk (Kd.S_reads' HO_3.out).1
             clear hH30 ge30_2
             refine start_ (n := 14) (S := fun w' => w'.cell? ⟨go30, ((ji21)).toNat * 3, none⟩ = some (.int .i64 ((rd_T51 x3_1 (ji21)).f0)) ∧ w'.cell? ⟨go30, ((ji21)).toNat * 3 + 1, none⟩ = some (.int .i64 ((rd_T51 x3_1 (ji21)).f1)) ∧ w'.cell? ⟨go30, ((ji21)).toNat * 3 + 2, none⟩ = some (.slice A389_2 ((rd_T51 x3_1 (ji21)).f2).length c389_2)) (ds := [13]) #[false, false, false, false, false, false, false, false, false, false, false, false, false, false] (by kernel_rfl) rfl rfl ⟨hx389_0, hx389_1, hx389_2⟩ (fun hHeld => ?_); refine with_tabW grapevineref05_Edits.tab18 grapevineref05_Edits.bits18 (fun HT_ HW_ => ?_)
             generalize wr.drew = w29 at HO_3 BK385 HB GG30 HH30 HL389_2 HR389_2 HX389_2 UU30 hx389_0 hx389_1 hx389_2 hHeld ⊢
             refine pure_ (i := 0) (N := some 53) (v := ?_) (a' := ?_) #[true, false, false, false, false, false, false, false, false, false, false, false, false, false] rfl rfl (any_of HT_.out (by kernel_rfl)) (fun _ _ _ h => h) (Or.inl ⟨by rfl, ?_⟩) ?_ ?_
             rotate_left
             ·intro w'
              go_simp
              with_reducible rfl
             rotate_left
             ·simp only [Act.put, List.setIfInBounds_toArray, List.set_cons_zero, List.set_cons_succ, i64_w, i32_w]
              rfl
             refine pure_ (i := 1) (N := some 54) (v := ?_) (a' := ?_) #[true, true, false, false, false, false, false, false, false, false, false, false, false, false] rfl rfl (any_of HT_.out (by kernel_rfl)) (fun _ _ _ h => h) (Or.inl ⟨by rfl, ?_⟩) ?_ ?_
             rotate_left
             ·intro w'
              go_simp
              with_reducible rfl
             rotate_left
             ·simp only [Act.put, List.setIfInBounds_toArray, List.set_cons_zero, List.set_cons_succ, i64_w, i32_w]
              rfl
             refine pure_ (i := 2) (N := some 55) (v := ?_) (a' := ?_) #[true, true, true, false, false, false, false, false, false, false, false, false, false, false] rfl rfl (any_of HT_.out (by kernel_rfl)) (fun _ _ _ h => h) (Or.inl ⟨by rfl, ?_⟩) ?_ ?_
             rotate_left
             ·intro w'
              go_simp
              with_reducible rfl
             rotate_left
             ·simp only [Act.put, List.setIfInBounds_toArray, List.set_cons_zero, List.set_cons_succ, i64_w, i32_w]
              rfl
             refine pure_ (i := 3) (N := some 56) (v := ?_) (a' := ?_) #[true, true, true, true, false, false, false, false, false, false, false, false, false, false] rfl rfl (any_of HT_.out (by kernel_rfl)) (fun _ _ _ h => h) (Or.inl ⟨by rfl, ?_⟩) ?_ ?_
             rotate_left
             ·intro w'
              go_simp
              with_reducible rfl
             rotate_left
             ·simp only [Act.put, List.setIfInBounds_toArray, List.set_cons_zero, List.set_cons_succ, i64_w, i32_w]
              rfl
             refine pure_ (i := 4) (N := some 57) (v := ?_) (a' := ?_) #[true, true, true, true, true, false, false, false, false, false, false, false, false, false] rfl rfl (any_of HT_.out (by kernel_rfl)) (fun _ _ _ h => h) (Or.inl ⟨by rfl, ?_⟩) ?_ ?_
             rotate_left
             ·intro w'
              go_simp
              with_reducible rfl
             rotate_left
             ·simp only [Act.put, List.setIfInBounds_toArray, List.set_cons_zero, List.set_cons_succ, i64_w, i32_w]
              rfl
             refine pure_ (i := 5) (N := some 58) (v := ?_) (a' := ?_) #[true, true, true, true, true, true, false, false, false, false, false, false, false, false] rfl rfl (any_of HT_.out (by kernel_rfl)) (fun _ _ _ h => h) (Or.inl ⟨by rfl, ?_⟩) ?_ ?_
             rotate_left
             ·intro w'
              go_simp
              with_reducible rfl
             rotate_left
             ·simp only [Act.put, List.setIfInBounds_toArray, List.set_cons_zero, List.set_cons_succ, i64_w, i32_w]
              rfl
             refine pure_ (i := 7) (N := some 60) (v := ?_) (a' := ?_) #[true, true, true, true, true, true, false, true, false, false, false, false, false, false] rfl rfl (any_of HT_.out (by kernel_rfl)) (fun _ _ _ h => h) (Or.inl ⟨by rfl, ?_⟩) ?_ ?_
             rotate_left
             ·intro w'
              go_simp
              with_reducible rfl
             rotate_left
             ·simp only [Act.put, List.setIfInBounds_toArray, List.set_cons_zero, List.set_cons_succ, i64_w, i32_w]
              rfl
             refine pure_ (i := 8) (N := some 61) (v := ?_) (a' := ?_) #[true, true, true, true, true, true, false, true, true, false, false, false, false, false] rfl rfl (any_of HT_.out (by kernel_rfl)) (fun _ _ _ h => h) (Or.inl ⟨by rfl, ?_⟩) ?_ ?_
             rotate_left
             ·intro w'
              go_simp
              with_reducible rfl
             rotate_left
             ·simp only [Act.put, List.setIfInBounds_toArray, List.set_cons_zero, List.set_cons_succ, i64_w, i32_w]
              rfl
             refine take_ (i := 6) (N := some 59) (v := ?_) (a' := ?_) #[true, true, true, true, true, true, true, true, true, false, false, false, false, false] rfl rfl (take_ofW HT_.out HW_.out (by kernel_rfl)) (fun _ _ _ h => h) (Or.inl ⟨by rfl, ?_⟩) hHeld ?_ ?_
             rotate_left
             ·rintro w' ⟨s0, s1, s2⟩
              go_simp
              with_reducible rfl
             rotate_left
             ·simp only [Act.put, List.setIfInBounds_toArray, List.set_cons_zero, List.set_cons_succ, i64_w, i32_w]
              rfl
             refine one_ (i := 9) (N := some 62) #[true, true, true, true, true, true, true, true, true, true, false, false, false, false] rfl rfl (one_of HT_.out (by kernel_rfl)) (by decide) (fun K hK => ?_)
             refine value_ (w1 := ?_) (v := ?_) (by rfl) rfl ?_ ?_
             rotate_left 2
             ·go_simp
              constructor
              ·rfl
              ·rfl
             refine hK.out _ _ ⟨(World.cell?_alloc_lt _ _ _ (World.block_lt_of_cell? _ _ (hHeld.1))).trans (hHeld.1), (World.cell?_alloc_lt _ _ _ (World.block_lt_of_cell? _ _ (hHeld.2.1))).trans (hHeld.2.1), (World.cell?_alloc_lt _ _ _ (World.block_lt_of_cell? _ _ (hHeld.2.2))).trans (hHeld.2.2)⟩ (fun hHeld => ?_)
             clear hK K
             refine norm_ (a' := ?_) ?_ ?_
             rotate_left
             ·show Act.put _ (some 62) _ = _
              simp only [Act.put, List.setIfInBounds_toArray, List.set_cons_zero, List.set_cons_succ, i64_w, i32_w]
              rfl
             refine one_ (i := 10) (N := some 63) #[true, true, true, true, true, true, true, true, true, true, true, false, false, false] rfl rfl (one_of HT_.out (by kernel_rfl)) (by decide) (fun K hK => ?_)
             refine Kd.R_append_step Kd.string (w0 := w) w.heap.size (by rfl) (.tmp 59) (.tmp 62) 22 9 (.string ⟨#[]⟩) 16 rfl Try.underlying22 info9 rfl (by decide) (by omega) (.slice A389_2 ((rd_T51 x3_1 (ji21)).f2).length c389_2) ((rd_T51 x3_1 (ji21)).f2) ((rdOf ByteArray.empty l0_4 x6_1).extract 1 (rdOf ByteArray.empty l0_4 x6_1).size) [.string ((rdOf ByteArray.empty l0_4 x6_1).extract 1 (rdOf ByteArray.empty l0_4 x6_1).size)] (fun k_ => oki30 k_ ∨ ((fun _ => True)) k_ ∧ w29.heap.size ≤ k_) (fun _ => False) rfl rfl ?aP (fun _ hk => hk.elim) ?aF ?aO ?aB ?aS ?aL ?_
             (case aP => exact rfl)
             (case aB => exact (by repeat (first | (with_reducible first | exact HB.out | apply below_alloc | apply pw_below_drewN | apply below_drew1 | refine below_set ?_ GE385.out) | exact HB.out)))
             (case aF => exact (fun k_ hk => .inr ⟨trivial, hk⟩))
             (case aO => exact (by (with_reducible repeat (first | apply Kd.R_alloc | apply Kd.R_drewN | apply Kd.R_drew)); exact Kd.R_mono UU30.out (fun _ hk => .inl hk)))
             (case aS => exact (below_size (by repeat (first | (with_reducible first | exact HB.out | apply below_alloc | apply pw_below_drewN | apply below_drew1 | refine below_set ?_ GE385.out) | exact HB.out))))
             (case aL => have := LMc25.out; omega)
             intro v391 w31 ho hb hg hat
             (first | have HS0_ := cell_grown hg (hHeld.1) (by first | (rw [add_block]; exact (fun e_ => ((HL389_2.out.1 _ e_.symm).2) rfl)) | (show some (Addr.add _ _).block ≠ _; rw [add_block]; exact (fun e_ => ((HL389_2.out.1 _ e_.symm).2) rfl)) | exact (fun e_ => ((HL389_2.out.1 _ e_.symm).2) rfl)) | have HS0_ := cell_grown hg (cell_unalloc (hHeld.1) (by first | (rw [add_block]; exact Kd.S_lt HO_3.out _ rfl) | (show (Addr.add _ _).block < _; rw [add_block]; exact Kd.S_lt HO_3.out _ rfl) | exact Kd.S_lt HO_3.out _ rfl)) (by first | (rw [add_block]; exact (fun e_ => ((HL389_2.out.1 _ e_.symm).2) rfl)) | (show some (Addr.add _ _).block ≠ _; rw [add_block]; exact (fun e_ => ((HL389_2.out.1 _ e_.symm).2) rfl)) | exact (fun e_ => ((HL389_2.out.1 _ e_.symm).2) rfl)))
             (first | have HS1_ := cell_grown hg (hHeld.2.1) (by first | (rw [add_block]; exact (fun e_ => ((HL389_2.out.1 _ e_.symm).2) rfl)) | (show some (Addr.add _ _).block ≠ _; rw [add_block]; exact (fun e_ => ((HL389_2.out.1 _ e_.symm).2) rfl)) | exact (fun e_ => ((HL389_2.out.1 _ e_.symm).2) rfl)) | have HS1_ := cell_grown hg (cell_unalloc (hHeld.2.1) (by first | (rw [add_block]; exact Kd.S_lt HO_3.out _ rfl) | (show (Addr.add _ _).block < _; rw [add_block]; exact Kd.S_lt HO_3.out _ rfl) | exact Kd.S_lt HO_3.out _ rfl)) (by first | (rw [add_block]; exact (fun e_ => ((HL389_2.out.1 _ e_.symm).2) rfl)) | (show some (Addr.add _ _).block ≠ _; rw [add_block]; exact (fun e_ => ((HL389_2.out.1 _ e_.symm).2) rfl)) | exact (fun e_ => ((HL389_2.out.1 _ e_.symm).2) rfl)))
             (first | have HS2_ := cell_grown hg (hHeld.2.2) (by first | (rw [add_block]; exact (fun e_ => ((HL389_2.out.1 _ e_.symm).2) rfl)) | (show some (Addr.add _ _).block ≠ _; rw [add_block]; exact (fun e_ => ((HL389_2.out.1 _ e_.symm).2) rfl)) | exact (fun e_ => ((HL389_2.out.1 _ e_.symm).2) rfl)) | have HS2_ := cell_grown hg (cell_unalloc (hHeld.2.2) (by first | (rw [add_block]; exact Kd.S_lt HO_3.out _ rfl) | (show (Addr.add _ _).block < _; rw [add_block]; exact Kd.S_lt HO_3.out _ rfl) | exact Kd.S_lt HO_3.out _ rfl)) (by first | (rw [add_block]; exact (fun e_ => ((HL389_2.out.1 _ e_.symm).2) rfl)) | (show some (Addr.add _ _).block ≠ _; rw [add_block]; exact (fun e_ => ((HL389_2.out.1 _ e_.symm).2) rfl)) | exact (fun e_ => ((HL389_2.out.1 _ e_.symm).2) rfl)))
             rw [← Ny390.out] at ho
             have n0_ := Aside0.mk (blk_grown (g := gb385) (o := .cells #[.int .i64 a0_0, .int .i64 a0_1, .int .i64 a0_2, .int .i64 a0_3, .slice (some ad386) l0_4.length c0_4] 33 (0, 0)) (by (with_reducible repeat (first | refine blk_drewN ?_ _ | refine blk_drew ?_ | refine blk_alloc ?_ _)); exact BK385.out) hg (Kd.R_ne HL389_2.out BK385.out (by decide)))
             have n1_ := Aside0.mk (hb)
             have n2_ := Aside0.mk (Kd.H_grown (Kd.H_widen (by repeat (first | exact HH30.out | refine Kd.H_alloc ?_ _ | refine Kd.H_drewN ?_ _ | refine Kd.H_drew ?_))) hg (fun k_ e_ => .inl (UU30.out.1 k_ e_)))
             have n3_ := Aside0.mk (ho)
             clear BK385
             clear HB
             clear HH30
             clear HO_3
             clear UU30
             clear HL389_2
             have BK385 := n0_
             have HB := n1_
             have HH30 := n2_
             have HO392 := n3_
             clear n0_ n1_ n2_ n3_
             clear ho hb hg hat
             have p26 : 0 ≤ ((ji21) : Int) := of_decide_eq_true (by first | (with_reducible assumption) | assumption)
             have q26 : ((ji21) : Int) < ((x3_1.length : Int) : Int) := of_decide_eq_true (by first | (with_reducible assumption) | assumption)
             replace p26 := eq_true p26
             replace q26 := eq_true q26
             obtain ⟨Ao34, co34, eo34⟩ := Kd.R_slice HO392.out
             (first | subst eo34 | (injection eo34 with f1_ f2_ f3_; have f4_ := f1_.symm; have f5_ := f3_.symm; clear f1_ f2_ f3_; subst f4_; subst f5_))
             obtain ⟨_, _, hraw32, _, _, hcc32, _⟩ := Kd.H_raw HH30.out (of_decide_eq_true (by first | (with_reducible assumption) | assumption)) (by have h_ : ((ji21) : Int) < ((x3_1.length : Int) : Int) := of_decide_eq_true (by first | (with_reducible assumption) | assumption); first | exact h_ | (have e_ := (HN30.out); omega) | simpa using h_)
             obtain ⟨_, hfr32⟩ := Kd.H_at HH30.out (of_decide_eq_true (by first | (with_reducible assumption) | assumption)) (by have h_ : ((ji21) : Int) < ((x3_1.length : Int) : Int) := of_decide_eq_true (by first | (with_reducible assumption) | assumption); first | exact h_ | (have e_ := (HN30.out); omega) | simpa using h_)
             have hx32_0 := hcc32 2 _ rfl
             have hf32_0 := hfr32 2
             (try rw [show (k51).sz = 3 from rfl] at hx32_0)
             (try rw [show (k51).sz = 3 from rfl] at hf32_0)
             have HP32 := Kd.S_seg0 HH30.out (of_decide_eq_true (by first | (with_reducible assumption) | assumption)) (by have h_ : ((ji21) : Int) < ((x3_1.length : Int) : Int) := of_decide_eq_true (by first | (with_reducible assumption) | assumption); first | exact h_ | (have e_ := (HN30.out); omega) | simpa using h_) (seg := [.slice Ao34 y390.length co34]) (j := 2) (show 3 ≤ 3 from by decide) (x' := (⟨(rd_T51 x3_1 (ji21)).f0, (rd_T51 x3_1 (ji21)).f1, y390⟩ : S51)) (k51_mkM _ _ _ (⟨(rd_T51 x3_1 (ji21)).f0, (rd_T51 x3_1 (ji21)).f1, y390⟩ : S51) HO392.out) (fun _ hk => hk)
             clear hcc32 hfr32
             have HNB385_go30 := Aside0.mk (show gb385 ≠ go30 from by have h_ := Kd.R_ne hraw32 BK385.out (by decide); intro e_; exact h_ (by rw [e_]; rfl))
             have HS32 := HP32.1
             rw [← Ny393.out] at HS32
             have HQ32 := Aside0.mk HS32
             obtain ⟨_, hgg32⟩ := Kd.R_typed hraw32 go30 rfl
             have GG32_ := Aside0.mk hgg32
             clear HP32 HS32 hgg32
             refine hK.out _ _ ⟨HS0_, HS1_, HS2_⟩ (fun hHeld => ?_)
             clear hK K
             refine norm_ (a' := ?_) ?_ ?_
             rotate_left
             ·show Act.put _ (some 63) _ = _
              simp only [Act.put, List.setIfInBounds_toArray, List.set_cons_zero, List.set_cons_succ, i64_w, i32_w]
              rfl
             refine pure_ (i := 11) (N := some 64) (v := ?_) (a' := ?_) #[true, true, true, true, true, true, true, true, true, true, true, true, false, false] rfl rfl (any_of HT_.out (by kernel_rfl)) (fun _ _ _ h => h) (Or.inl ⟨by rfl, ?_⟩) ?_ ?_
             rotate_left
             ·intro w'
              go_simp
              with_reducible rfl
             rotate_left
             ·simp only [Act.put, List.setIfInBounds_toArray, List.set_cons_zero, List.set_cons_succ, i64_w, i32_w]
              rfl
             refine pure_ (i := 12) (N := some 65) (v := ?_) (a' := ?_) #[true, true, true, true, true, true, true, true, true, true, true, true, true, false] rfl rfl (any_of HT_.out (by kernel_rfl)) (fun _ _ _ h => h) (Or.inl ⟨by rfl, ?_⟩) ?_ ?_
             rotate_left
             ·intro w'
              go_simp
              with_reducible rfl
             rotate_left
             ·simp only [Act.put, List.setIfInBounds_toArray, List.set_cons_zero, List.set_cons_succ, i64_w, i32_w]
              rfl
             refine last_ (i := 13) (N := none) #[true, true, true, true, true, true, true, true, true, true, true, true, true, true] rfl rfl (one_of HT_.out (by kernel_rfl)) (by decide) (fun K hK => ?_)
             refine skip_ (w1 := ?_) (by rfl) rfl ?_ ?_
             rotate_left
             ·go_simp
              rfl
             refine hK.out _ _ ?_
             clear hK K
             refine done_ (done_of HT_.out (by kernel_rfl)) ?_
             try go_wp2
             go_roundg k1
             case measure => have := HK1.out; omega
             case rel => exact ⟨(y393), (x4_1), (true), (wrap64 (x6_1 + 1)), (by first | rfl | (simp; done) | (simp [*]; done)), (by first | rfl | (simp; done) | (simp [*]; done)), (by first | rfl | (simp; done) | (simp [*]; done)), H', ⟨by have := HK1.out; omega⟩, ⟨by (with_reducible repeat (first | apply Kd.S_alloc | apply Kd.S_drewN | apply Kd.S_drew)); exact HQ32.out⟩, ⟨by (with_reducible repeat (first | refine blk_drewN ?_ _ | refine blk_drew ?_ | refine blk_alloc ?_ _)); refine blk_far ?_ HNB385_go30.out _; (with_reducible repeat (first | refine blk_drewN ?_ _ | refine blk_drew ?_ | refine blk_alloc ?_ _)); exact BK385.out⟩, ⟨by repeat (first | (with_reducible first | exact HB.out | apply below_alloc | apply pw_below_drewN | apply below_drew1 | refine below_set ?_ GB30.out | refine below_set ?_ GE385.out) | exact HB.out)⟩⟩
            ·rw [if_neg c25] at H
             exact absurd H (by simp)
           ·rw [if_neg c24] at H
            exact absurd H (by simp)
          ·rw [if_neg c23] at H
           exact absurd H (by simp)
         ·rw [if_neg c22] at H
          exact absurd H (by simp)
       ·replace c10 := Bool.eq_false_iff.mpr c10
        subst c10
        have H1 : (if x3_1.length < 3518437208883 then ((some (x3_1 ++ [(⟨x4_1, 0, ([] : List ByteArray)⟩ : S51)] : List (S51))).bind fun y394 => (if (bt (rdOf ByteArray.empty l0_4 x6_1) 0) = 45 then (if 0 ≤ (wrap64 ((y394.length : Int) - 1)) then (if (wrap64 ((y394.length : Int) - 1)) < (y394.length : Int) then (grapevineref05_Edits.l0 k1 (y394.set ((wrap64 ((y394.length : Int) - 1)) : Int).toNat (⟨(rd_T51 y394 (wrap64 ((y394.length : Int) - 1))).f0, wrap64 (((rd_T51 y394 (wrap64 ((y394.length : Int) - 1))).f1) + 1), (rd_T51 y394 (wrap64 ((y394.length : Int) - 1))).f2⟩ : S51)) (wrap64 (x4_1 + 1)) true (wrap64 (x6_1 + 1)) a0_0 a0_1 a0_2 a0_3 l0_4) else (none)) else (none)) else (if 0 ≤ (wrap64 ((y394.length : Int) - 1)) then (if (wrap64 ((y394.length : Int) - 1)) < (y394.length : Int) then (if 1 ≤ ((rdOf ByteArray.empty l0_4 x6_1).size : Int) then (if ((rd_T51 y394 (wrap64 ((y394.length : Int) - 1))).f2).length < 8796093022208 then (grapevineref05_Edits.l0 k1 (y394.set ((wrap64 ((y394.length : Int) - 1)) : Int).toNat (⟨(rd_T51 y394 (wrap64 ((y394.length : Int) - 1))).f0, (rd_T51 y394 (wrap64 ((y394.length : Int) - 1))).f1, (((rd_T51 y394 (wrap64 ((y394.length : Int) - 1))).f2) ++ [(rdOf ByteArray.empty l0_4 x6_1).extract 1 (rdOf ByteArray.empty l0_4 x6_1).size])⟩ : S51)) x4_1 true (wrap64 (x6_1 + 1)) a0_0 a0_1 a0_2 a0_3 l0_4) else (none)) else (none)) else (none)) else (none)))) else (none)) = some r := by rw [if_neg (show ¬ (false = true) by decide)] at H; exact H
        clear H
        have H := H1
        clear H1
        by_cases c35 : x3_1.length < 3518437208883
        ·rw [if_pos c35] at H
         have LMc35 := Aside0.mk c35
         clear c35
         obtain ⟨y394, hy394⟩ : ∃ y_ : List (S51), y_ = (x3_1 ++ [(⟨x4_1, 0, ([] : List ByteArray)⟩ : S51)]) := ⟨_, rfl⟩
         replace H : (if (bt (rdOf ByteArray.empty l0_4 x6_1) 0) = 45 then (if 0 ≤ (wrap64 ((y394.length : Int) - 1)) then (if (wrap64 ((y394.length : Int) - 1)) < (y394.length : Int) then (grapevineref05_Edits.l0 k1 (y394.set ((wrap64 ((y394.length : Int) - 1)) : Int).toNat (⟨(rd_T51 y394 (wrap64 ((y394.length : Int) - 1))).f0, wrap64 (((rd_T51 y394 (wrap64 ((y394.length : Int) - 1))).f1) + 1), (rd_T51 y394 (wrap64 ((y394.length : Int) - 1))).f2⟩ : S51)) (wrap64 (x4_1 + 1)) true (wrap64 (x6_1 + 1)) a0_0 a0_1 a0_2 a0_3 l0_4) else (none)) else (none)) else (if 0 ≤ (wrap64 ((y394.length : Int) - 1)) then (if (wrap64 ((y394.length : Int) - 1)) < (y394.length : Int) then (if 1 ≤ ((rdOf ByteArray.empty l0_4 x6_1).size : Int) then (if ((rd_T51 y394 (wrap64 ((y394.length : Int) - 1))).f2).length < 8796093022208 then (grapevineref05_Edits.l0 k1 (y394.set ((wrap64 ((y394.length : Int) - 1)) : Int).toNat (⟨(rd_T51 y394 (wrap64 ((y394.length : Int) - 1))).f0, (rd_T51 y394 (wrap64 ((y394.length : Int) - 1))).f1, (((rd_T51 y394 (wrap64 ((y394.length : Int) - 1))).f2) ++ [(rdOf ByteArray.empty l0_4 x6_1).extract 1 (rdOf ByteArray.empty l0_4 x6_1).size])⟩ : S51)) x4_1 true (wrap64 (x6_1 + 1)) a0_0 a0_1 a0_2 a0_3 l0_4) else (none)) else (none)) else (none)) else (none))) = some r := by first | (rw [hy394]; with_reducible exact H) | (have H2_ := (Option.bind_some _ _).symm.trans H; rw [hy394]; with_reducible exact H2_) | (have H2_ := (Option.bind_some _ _).symm.trans H; with_reducible exact H2_) | with_reducible exact H | (rw [hy394]; exact H) | exact H
         have Ny394 := Aside0.mk hy394
         clear hy394
         by_cases c37 : (bt (rdOf ByteArray.empty l0_4 x6_1) 0) = 45
         ·rw [if_pos c37] at H
          have c37b0 : ((bt (rdOf ByteArray.empty l0_4 x6_1) 0) == 45) = true := beq_iff_eq.mpr c37
          have c37b1 : ((bt (rdOf ByteArray.empty l0_4 x6_1) 0) != 45) = false := bne_eq_false_iff_eq.mpr c37
          clear c37
          obtain ⟨ji38, hji38⟩ : ∃ j_ : Int, (wrap64 ((y394.length : Int) - 1)) = j_ := ⟨_, rfl⟩
          replace H : (if 0 ≤ (ji38) then (if (ji38) < (y394.length : Int) then (grapevineref05_Edits.l0 k1 (y394.set ((ji38) : Int).toNat (⟨(rd_T51 y394 (ji38)).f0, wrap64 (((rd_T51 y394 (ji38)).f1) + 1), (rd_T51 y394 (ji38)).f2⟩ : S51)) (wrap64 (x4_1 + 1)) true (wrap64 (x6_1 + 1)) a0_0 a0_1 a0_2 a0_3 l0_4) else (none)) else (none)) = some r := by first | (rw [hji38] at H; exact H) | (simp only [hji38] at H ⊢; exact H)
          have hji38w : (IntKind.i64.wrap ((y394.length : Int) - 1)) = ji38 := (i64_w _).trans hji38
          by_cases c39 : 0 ≤ (ji38)
          ·rw [if_pos c39] at H
           have c39b0 : decide (0 ≤ (ji38)) = true := decide_eq_true c39
           clear c39
           by_cases c40 : (ji38) < (y394.length : Int)
           ·rw [if_pos c40] at H
            have c40b0 : decide ((ji38) < (y394.length : Int)) = true := decide_eq_true c40
            clear c40
            obtain ⟨y398, hy398⟩ : ∃ y_ : List (S51), y_ = (y394.set ((ji38) : Int).toNat (⟨(rd_T51 y394 (ji38)).f0, wrap64 (((rd_T51 y394 (ji38)).f1) + 1), (rd_T51 y394 (ji38)).f2⟩ : S51)) := ⟨_, rfl⟩
            replace H : (grapevineref05_Edits.l0 k1 y398 (wrap64 (x4_1 + 1)) true (wrap64 (x6_1 + 1)) a0_0 a0_1 a0_2 a0_3 l0_4) = some r := by first | (rw [hy398]; with_reducible exact H) | (have H2_ := (Option.bind_some _ _).symm.trans H; rw [hy398]; with_reducible exact H2_) | (have H2_ := (Option.bind_some _ _).symm.trans H; with_reducible exact H2_) | with_reducible exact H | (rw [hy398]; exact H) | exact H
            have Ny398 := Aside0.mk hy398
            clear hy398
            have H' := Aside0.mk H
            clear H
            have hcz42_0 : wr.cell? ⟨gb385, 0, none⟩ = some (.int .i64 a0_0) := (blk_cell BK385.out 0).trans rfl
            have hcz42_1 : wr.cell? ⟨gb385, 1, none⟩ = some (.int .i64 a0_1) := (blk_cell BK385.out 1).trans rfl
            have hcz42_2 : wr.cell? ⟨gb385, 2, none⟩ = some (.int .i64 a0_2) := (blk_cell BK385.out 2).trans rfl
            have hcz42_3 : wr.cell? ⟨gb385, 3, none⟩ = some (.int .i64 a0_3) := (blk_cell BK385.out 3).trans rfl
            have hcz42_4 : wr.cell? ⟨gb385, 4, none⟩ = some (.slice A0_4 l0_4.length c0_4) := (blk_cell BK385.out 4).trans rfl
            have hfz42_0 := blk_frozen BK385.out 0
            have hfz42_1 := blk_frozen BK385.out 1
            have hfz42_2 := blk_frozen BK385.out 2
            have hfz42_3 := blk_frozen BK385.out 3
            have hfz42_4 := blk_frozen BK385.out 4
            have p386 : 0 ≤ (x6_1 : Int) := of_decide_eq_true (by first | (with_reducible assumption) | assumption)
            have q386 : x6_1 < (l0_4.length : Int) := of_decide_eq_true (by first | (with_reducible assumption) | assumption)
            obtain ⟨ad386, e386, hx386_0⟩ := Kd.at_string HR0_4.out x6_1 p386 q386
            cases e386
            replace hx386_0 := (HB.out.cell (World.block_lt_of_cell? w _ hx386_0)).trans hx386_0
            replace p386 := eq_true p386
            replace q386 := eq_true q386
            have p7 : 0 ≤ (0 : Int) := (by omega)
            have q7 : 0 < (rdOf ByteArray.empty l0_4 x6_1).size := (by have : (0 : Int) < ((rdOf ByteArray.empty l0_4 x6_1).size : Int) := of_decide_eq_true (by first | (with_reducible assumption) | assumption); omega)
            have hx7 : ∀ h : 0 < (rdOf ByteArray.empty l0_4 x6_1).size, (((rdOf ByteArray.empty l0_4 x6_1)[0]'h).toNat : Int) = bt (rdOf ByteArray.empty l0_4 x6_1) 0 := bt_at (rdOf ByteArray.empty l0_4 x6_1) 0
            clear p7
            have qi7 : (0 < ((rdOf ByteArray.empty l0_4 x6_1).size : Int)) = True := eq_true (of_decide_eq_true (by first | (with_reducible assumption) | assumption))
            replace q7 := eq_true q7
            go_wp2_with (first | ((with_reducible refine gate_builtin (b := .append) (xs := #[.tmp 30, .tmp 33]) rfl ?_); at_builtin; refine Kd.S_append k51 (w0 := w) w.heap.size rfl (.tmp 30) (.tmp 33) 23 51 (.agg #[(.int .i64 0), (.int .i64 0), (.slice none 0 0)]) 40 rfl Try.underlying23 info51 rfl (by decide) (by omega) u3 x3_1 (⟨x4_1, 0, ([] : List ByteArray)⟩ : S51) [.int .i64 x4_1, .int .i64 0, .slice none 0 0] (fun _ => True) (fun _ => False) rfl rfl ?aP (fun k_ hk_ => hk_.elim) ?aF ?aO ?aB ?aS ?aL ?_; (case aP => exact k51_mkM _ _ _ (⟨x4_1, 0, ([] : List ByteArray)⟩ : S51) (Kd.R_nil _ _ _ _ _)); (case aB => exact (by repeat (first | (with_reducible first | exact HB.out | apply below_alloc | apply pw_below_drewN | apply below_drew1 | refine below_set ?_ GE385.out) | exact HB.out))); (case aF => exact (fun _ _ => trivial)); (case aO => exact (by (with_reducible repeat (first | apply Kd.S_alloc | apply Kd.S_drewN | apply Kd.S_drew)); exact Kd.S_mono HO_3.out (fun k_ hk => ⟨trivial, fun e_ => e_⟩))); (case aS => exact (below_size (by repeat (first | (with_reducible first | exact HB.out | apply below_alloc | apply pw_below_drewN | apply below_drew1 | refine below_set ?_ GE385.out) | exact HB.out)))); (case aL => have := LMc35.out; omega); intro v395 w43 ho hb hg hat; rw [← Ny394.out] at ho; have n0_ := Aside0.mk (blk_grown (g := gb385) (o := .cells #[.int .i64 a0_0, .int .i64 a0_1, .int .i64 a0_2, .int .i64 a0_3, .slice (some ad386) l0_4.length c0_4] 33 (0, 0)) (by (with_reducible repeat (first | refine blk_drewN ?_ _ | refine blk_drew ?_ | refine blk_alloc ?_ _)); exact BK385.out) hg (Kd.S_ne HO_3.out BK385.out (by decide))); have n1_ := Aside0.mk (hb); have n2_ := Aside0.mk (ho); clear BK385; clear HB; clear HO_3; have BK385 := n0_; have HB := n1_; have HO396 := n2_; clear n0_ n1_ n2_; clear ho hb hg hat; obtain ⟨Ao44, co44, eo44⟩ := Kd.S_slice HO396.out; subst eo44; have p36 : 0 ≤ (0 : Int) := (by omega); have q36 : 0 < (rdOf ByteArray.empty l0_4 x6_1).size := (by have : (0 : Int) < ((rdOf ByteArray.empty l0_4 x6_1).size : Int) := of_decide_eq_true (by first | (with_reducible assumption) | assumption); omega); have hx36 : ∀ h : 0 < (rdOf ByteArray.empty l0_4 x6_1).size, (((rdOf ByteArray.empty l0_4 x6_1)[0]'h).toNat : Int) = bt (rdOf ByteArray.empty l0_4 x6_1) 0 := bt_at (rdOf ByteArray.empty l0_4 x6_1) 0; clear p36; have qi36 : (0 < ((rdOf ByteArray.empty l0_4 x6_1).size : Int)) = True := eq_true (of_decide_eq_true (by first | (with_reducible assumption) | assumption)); replace q36 := eq_true q36; have p397 : 0 ≤ ((ji38) : Int) := of_decide_eq_true (by first | (with_reducible assumption) | assumption); have q397 : (ji38) < (y394.length : Int) := of_decide_eq_true (by first | (with_reducible assumption) | assumption); obtain ⟨ad397, A397_2, c397_2, e397, hx397_0, hx397_1, hx397_2, hl397_2, hi397_2⟩ := at_T51 (Kd.S_reads' HO396.out).2.2 (ji38) p397 q397; cases e397; obtain ⟨ce397, hce397, hMe397, hcc397⟩ := Kd.S_get HO396.out z51 (ji38) p397 (by first | exact q397 | exact of_decide_eq_true (by first | (with_reducible assumption) | assumption) | (have e_ := (Kd.S_reads' HO396.out).1; omega)); obtain ⟨ve397_2, rfl, ge397_2⟩ := k51_openM hMe397; have hv397_2 := hcc397 2 _ rfl; rw [add_field _ _ 2 (by omega)] at hv397_2; replace hv397_2 := Option.some.inj (hv397_2.symm.trans hx397_2); rw [hv397_2] at ge397_2; have HL397_2 := Aside0.mk (show Kd.R Kd.string 9 _ _ _ _ ((rd_T51 y394 (ji38)).f2) from ge397_2); clear hv397_2 ge397_2; have HX397_2 := Aside0.mk hx397_2; clear hcc397 hce397; have HR397_2 := Aside0.mk hi397_2; have HC397_2 := Aside0.mk hl397_2; clear hi397_2 hl397_2; replace p397 := eq_true p397; replace q397 := eq_true q397; have p41 : 0 ≤ ((ji38) : Int) := of_decide_eq_true (by first | (with_reducible assumption) | assumption); have q41 : ((ji38) : Int) < ((y394.length : Int) : Int) := of_decide_eq_true (by first | (with_reducible assumption) | assumption); obtain ⟨go41, co41, eo41, gb41, gl41, cl41, HG41⟩ := Kd.S_form HO396.out (by omega); (first | cases eo41 | (injection eo41 with ea_ en_ ec_; (first | subst ea_ | (injection ea_ with ea_; subst ea_)); subst ec_; clear en_)); have GB41 := Aside0.mk gb41; have GG41 := Aside0.mk HG41; clear gb41 gl41 HG41; (first | simp only [add_plain] at hx397_0 | skip); (first | simp only [add_plain] at hx397_1 | skip); (first | simp only [add_plain] at hx397_2 | skip); obtain ⟨_, ce41, hcl41, hM41, hcc41, hfr41, _, _⟩ := Kd.S_elem HO396.out z51 ((ji38) : Int) p41 q41; obtain ⟨ve41_2, rfl, ge41_2⟩ := k51_openM hM41; have hx41_0 : w43.cell? ⟨go41, ((ji38) : Int).toNat * 3, none⟩ = some (.int .i64 ((rd_T51 y394 (ji38)).f0)) := hcc41 0 _ rfl; have hx41_1 : w43.cell? ⟨go41, ((ji38) : Int).toNat * 3 + 1, none⟩ = some (.int .i64 ((rd_T51 y394 (ji38)).f1)) := hcc41 1 _ rfl; have hx41_2 : w43.cell? ⟨go41, ((ji38) : Int).toNat * 3 + 2, none⟩ = some (ve41_2) := hcc41 2 _ rfl; have hf41_0 : w43.frozen? ⟨go41, ((ji38) : Int).toNat * 3, none⟩ = false := hfr41 0; have hf41_1 : w43.frozen? ⟨go41, ((ji38) : Int).toNat * 3 + 1, none⟩ = false := hfr41 1; have hf41_2 : w43.frozen? ⟨go41, ((ji38) : Int).toNat * 3 + 2, none⟩ = false := hfr41 2; (try clear hcl41); (try clear hcc41); (try clear hfr41); (try clear hM41); replace p41 := eq_true p41; replace q41 := eq_true q41; have HX45 := Aside0.mk (show Kd.S k51 51 w43 w.heap.size (fun k_ => ((fun _ => True)) k_ ∧ ¬ ((fun _ => False)) k_) (.slice (some ⟨go41, 0, none⟩) y394.length co44) y394 from (by (with_reducible repeat (first | apply Kd.S_alloc | apply Kd.S_drewN | apply Kd.S_drew)); exact Kd.S_mono HO396.out (fun k_ hk => ⟨trivial, fun e_ => e_⟩))); obtain ⟨oki45, ce45, hcl45, hM45, hcc45, hfr45, hoki45, hH45⟩ := Kd.S_elem HX45.out z51 ((ji38) : Int) (of_decide_eq_true (by first | (with_reducible assumption) | assumption)) (by have h_ : ((ji38) : Int) < ((y394.length : Int) : Int) := of_decide_eq_true (by first | (with_reducible assumption) | assumption); first | exact h_ | (have e_ := (Kd.S_reads' HO396.out).1; omega) | simpa using h_); obtain ⟨ve45_2, rfl, ge45_2⟩ := k51_openM hM45; have HP45 := Kd.S_seg hH45 (of_decide_eq_true (by first | (with_reducible assumption) | assumption)) (by have h_ : ((ji38) : Int) < ((y394.length : Int) : Int) := of_decide_eq_true (by first | (with_reducible assumption) | assumption); first | exact h_ | (have e_ := (Kd.S_reads' HO396.out).1; omega) | simpa using h_) (seg := [.int .i64 (wrap64 (((rd_T51 y394 (ji38)).f1) + 1))]) (j := 1) (show 2 ≤ 3 from by decide) (x' := (⟨(rd_T51 y394 (ji38)).f0, wrap64 (((rd_T51 y394 (ji38)).f1) + 1), (rd_T51 y394 (ji38)).f2⟩ : S51)) (k51_mkM _ _ _ (⟨(rd_T51 y394 (ji38)).f0, wrap64 (((rd_T51 y394 (ji38)).f1) + 1), (rd_T51 y394 (ji38)).f2⟩ : S51) (Kd.R_mono ge45_2 (fun _ h_ => Or.inl h_))) (fun _ hk => hk) (fun k_ hk_ => hk_.elim); have hx45_1 := hcc45 1 _ rfl; (try simp only [show (k51).sz = 3 from rfl, Nat.mul_one, Nat.add_zero] at hx45_1); have hf45_1 := hfr45 1; (try simp only [show (k51).sz = 3 from rfl, Nat.mul_one, Nat.add_zero] at hf45_1); (try clear hcl45); (try clear hcc45); (try clear hfr45); (try clear hM45); (try clear hoki45); (try clear hH45)) | ((with_reducible refine gate_store (t := 3) (p := 50) rfl ?_); refine store_event (t := 3) (p := 50) (v := ?vo_w46) (w1 := (w43.setCell ⟨go41, ((ji38) : Int).toNat * 3 + 1, none⟩ (.int .i64 (wrap64 (((rd_T51 y394 (ji38)).f1) + 1))))) ?hg ?ho ?hn ?hr ?_; (case ho => rfl); (case hg => rfl); (case hn => rfl); (case hr => first | (go_simp; done) | (go_simp; rfl)); intro w46 hw; have hg : w43.grownBy w46 (some go41) := (by rw [hw]; exact HP45.2); have hp_ : Kd.S k51 51 w46 w.heap.size (fun _ => True) (.slice (some ⟨go41, 0, none⟩) y394.length co44) y398 := (by rw [hw, Ny398.out]; exact HP45.1); clear HP45; have n0_ := Aside0.mk (blk_grown (g := gb385) (o := .cells #[.int .i64 a0_0, .int .i64 a0_1, .int .i64 a0_2, .int .i64 a0_3, .slice (some ad386) l0_4.length c0_4] 33 (0, 0)) (by (with_reducible repeat (first | refine blk_drewN ?_ _ | refine blk_drew ?_ | refine blk_alloc ?_ _)); exact BK385.out) hg (Kd.S_ne HO396.out BK385.out (by decide))); have n1_ := Aside0.mk (hp_); have n2_ := Aside0.mk (Kd.R_after (v := (.slice (some ⟨go41, 0, none⟩) y394.length co44)) (v1 := (.slice (some ⟨go41, 0, none⟩) y394.length co44)) (ok := (fun _ => True)) (by (with_reducible repeat (first | apply Kd.R_alloc | apply Kd.R_drewN | apply Kd.R_drew)); exact HL397_2.out) hg (.inl rfl)); have n3_ := Aside0.mk ((by rw [hw]; exact below_set (HB.out) GB41.out : Below w.heap.size w w46)); clear BK385; clear HO396; clear HL397_2; clear HB; have BK385 := n0_; have HO396 := n1_; have HL397_2 := n2_; have HB := n3_; clear n0_ n1_ n2_ n3_; clear hg hw hp_))
            go_roundg k1
            case measure => have := HK1.out; omega
            case rel => exact ⟨(y398), (wrap64 (x4_1 + 1)), (true), (wrap64 (x6_1 + 1)), (by first | rfl | (simp; done) | (simp [*]; done)), (by first | rfl | (simp; done) | (simp [*]; done)), (by first | rfl | (simp; done) | (simp [*]; done)), H', ⟨by have := HK1.out; omega⟩, ⟨by (with_reducible repeat (first | apply Kd.S_alloc | apply Kd.S_drewN | apply Kd.S_drew)); exact HO396.out⟩, ⟨by (with_reducible repeat (first | refine blk_drewN ?_ _ | refine blk_drew ?_ | refine blk_alloc ?_ _)); exact BK385.out⟩, ⟨by repeat (first | (with_reducible first | exact HB.out | apply below_alloc | apply pw_below_drewN | apply below_drew1 | refine below_set ?_ GE385.out) | exact HB.out)⟩⟩
           ·rw [if_neg c40] at H
            exact absurd H (by simp)
          ·rw [if_neg c39] at H
           exact absurd H (by simp)
         ·rw [if_neg c37] at H
          have c37b0 : ((bt (rdOf ByteArray.empty l0_4 x6_1) 0) == 45) = false := beq_eq_false_iff_ne.mpr c37
          have c37b1 : ((bt (rdOf ByteArray.empty l0_4 x6_1) 0) != 45) = true := bne_iff_ne.mpr c37
          try clear hji38w
          obtain ⟨ji47, hji47⟩ : ∃ j_ : Int, (wrap64 ((y394.length : Int) - 1)) = j_ := ⟨_, rfl⟩
          replace H : (if 0 ≤ (ji47) then (if (ji47) < (y394.length : Int) then (if 1 ≤ ((rdOf ByteArray.empty l0_4 x6_1).size : Int) then (if ((rd_T51 y394 (ji47)).f2).length < 8796093022208 then (grapevineref05_Edits.l0 k1 (y394.set ((ji47) : Int).toNat (⟨(rd_T51 y394 (ji47)).f0, (rd_T51 y394 (ji47)).f1, (((rd_T51 y394 (ji47)).f2) ++ [(rdOf ByteArray.empty l0_4 x6_1).extract 1 (rdOf ByteArray.empty l0_4 x6_1).size])⟩ : S51)) x4_1 true (wrap64 (x6_1 + 1)) a0_0 a0_1 a0_2 a0_3 l0_4) else (none)) else (none)) else (none)) else (none)) = some r := by first | (rw [hji47] at H; exact H) | (simp only [hji47] at H ⊢; exact H)
          have hji47w : (IntKind.i64.wrap ((y394.length : Int) - 1)) = ji47 := (i64_w _).trans hji47
          by_cases c48 : 0 ≤ (ji47)
          ·rw [if_pos c48] at H
           have c48b0 : decide (0 ≤ (ji47)) = true := decide_eq_true c48
           clear c48
           by_cases c49 : (ji47) < (y394.length : Int)
           ·rw [if_pos c49] at H
            have c49b0 : decide ((ji47) < (y394.length : Int)) = true := decide_eq_true c49
            clear c49
            by_cases c50 : 1 ≤ ((rdOf ByteArray.empty l0_4 x6_1).size : Int)
            ·rw [if_pos c50] at H
             have c50b0 := eq_true c50
             have c50b1 : decide (1 ≤ ((rdOf ByteArray.empty l0_4 x6_1).size : Int)) = true := decide_eq_true c50
             clear c50
             by_cases c51 : ((rd_T51 y394 (ji47)).f2).length < 8796093022208
             ·rw [if_pos c51] at H
              have LMc51 := Aside0.mk c51
              clear c51
              obtain ⟨y400, hy400⟩ : ∃ y_ : List ByteArray, y_ = (((rd_T51 y394 (ji47)).f2) ++ [(rdOf ByteArray.empty l0_4 x6_1).extract 1 (rdOf ByteArray.empty l0_4 x6_1).size]) := ⟨_, rfl⟩
              replace H : (grapevineref05_Edits.l0 k1 (y394.set ((ji47) : Int).toNat (⟨(rd_T51 y394 (ji47)).f0, (rd_T51 y394 (ji47)).f1, y400⟩ : S51)) x4_1 true (wrap64 (x6_1 + 1)) a0_0 a0_1 a0_2 a0_3 l0_4) = some r := by first | (rw [hy400]; with_reducible exact H) | (have H2_ := (Option.bind_some _ _).symm.trans H; rw [hy400]; with_reducible exact H2_) | (have H2_ := (Option.bind_some _ _).symm.trans H; with_reducible exact H2_) | with_reducible exact H | (rw [hy400]; exact H) | exact H
              have Ny400 := Aside0.mk hy400
              clear hy400
              obtain ⟨y403, hy403⟩ : ∃ y_ : List (S51), y_ = (y394.set ((ji47) : Int).toNat (⟨(rd_T51 y394 (ji47)).f0, (rd_T51 y394 (ji47)).f1, y400⟩ : S51)) := ⟨_, rfl⟩
              replace H : (grapevineref05_Edits.l0 k1 y403 x4_1 true (wrap64 (x6_1 + 1)) a0_0 a0_1 a0_2 a0_3 l0_4) = some r := by first | (rw [hy403]; with_reducible exact H) | (have H2_ := (Option.bind_some _ _).symm.trans H; rw [hy403]; with_reducible exact H2_) | (have H2_ := (Option.bind_some _ _).symm.trans H; with_reducible exact H2_) | with_reducible exact H | (rw [hy403]; exact H) | exact H
              have Ny403 := Aside0.mk hy403
              clear hy403
              have H' := Aside0.mk H
              clear H
              have hcz53_0 : wr.cell? ⟨gb385, 0, none⟩ = some (.int .i64 a0_0) := (blk_cell BK385.out 0).trans rfl
              have hcz53_1 : wr.cell? ⟨gb385, 1, none⟩ = some (.int .i64 a0_1) := (blk_cell BK385.out 1).trans rfl
              have hcz53_2 : wr.cell? ⟨gb385, 2, none⟩ = some (.int .i64 a0_2) := (blk_cell BK385.out 2).trans rfl
              have hcz53_3 : wr.cell? ⟨gb385, 3, none⟩ = some (.int .i64 a0_3) := (blk_cell BK385.out 3).trans rfl
              have hcz53_4 : wr.cell? ⟨gb385, 4, none⟩ = some (.slice A0_4 l0_4.length c0_4) := (blk_cell BK385.out 4).trans rfl
              have hfz53_0 := blk_frozen BK385.out 0
              have hfz53_1 := blk_frozen BK385.out 1
              have hfz53_2 := blk_frozen BK385.out 2
              have hfz53_3 := blk_frozen BK385.out 3
              have hfz53_4 := blk_frozen BK385.out 4
              have p386 : 0 ≤ (x6_1 : Int) := of_decide_eq_true (by first | (with_reducible assumption) | assumption)
              have q386 : x6_1 < (l0_4.length : Int) := of_decide_eq_true (by first | (with_reducible assumption) | assumption)
              obtain ⟨ad386, e386, hx386_0⟩ := Kd.at_string HR0_4.out x6_1 p386 q386
              cases e386
              replace hx386_0 := (HB.out.cell (World.block_lt_of_cell? w _ hx386_0)).trans hx386_0
              replace p386 := eq_true p386
              replace q386 := eq_true q386
              have p7 : 0 ≤ (0 : Int) := (by omega)
              have q7 : 0 < (rdOf ByteArray.empty l0_4 x6_1).size := (by have : (0 : Int) < ((rdOf ByteArray.empty l0_4 x6_1).size : Int) := of_decide_eq_true (by first | (with_reducible assumption) | assumption); omega)
              have hx7 : ∀ h : 0 < (rdOf ByteArray.empty l0_4 x6_1).size, (((rdOf ByteArray.empty l0_4 x6_1)[0]'h).toNat : Int) = bt (rdOf ByteArray.empty l0_4 x6_1) 0 := bt_at (rdOf ByteArray.empty l0_4 x6_1) 0
              clear p7
              have qi7 : (0 < ((rdOf ByteArray.empty l0_4 x6_1).size : Int)) = True := eq_true (of_decide_eq_true (by first | (with_reducible assumption) | assumption))
              replace q7 := eq_true q7
              try go_wp2_with (first | ((with_reducible refine gate_builtin (b := .append) (xs := #[.tmp 30, .tmp 33]) rfl ?_); at_builtin; refine Kd.S_append k51 (w0 := w) w.heap.size rfl (.tmp 30) (.tmp 33) 23 51 (.agg #[(.int .i64 0), (.int .i64 0), (.slice none 0 0)]) 40 rfl Try.underlying23 info51 rfl (by decide) (by omega) u3 x3_1 (⟨x4_1, 0, ([] : List ByteArray)⟩ : S51) [.int .i64 x4_1, .int .i64 0, .slice none 0 0] (fun _ => True) (fun _ => False) rfl rfl ?aP (fun k_ hk_ => hk_.elim) ?aF ?aO ?aB ?aS ?aL ?_; (case aP => exact k51_mkM _ _ _ (⟨x4_1, 0, ([] : List ByteArray)⟩ : S51) (Kd.R_nil _ _ _ _ _)); (case aB => exact (by repeat (first | (with_reducible first | exact HB.out | apply below_alloc | apply pw_below_drewN | apply below_drew1 | refine below_set ?_ GE385.out) | exact HB.out))); (case aF => exact (fun _ _ => trivial)); (case aO => exact (by (with_reducible repeat (first | apply Kd.S_alloc | apply Kd.S_drewN | apply Kd.S_drew)); exact Kd.S_mono HO_3.out (fun k_ hk => ⟨trivial, fun e_ => e_⟩))); (case aS => exact (below_size (by repeat (first | (with_reducible first | exact HB.out | apply below_alloc | apply pw_below_drewN | apply below_drew1 | refine below_set ?_ GE385.out) | exact HB.out)))); (case aL => have := LMc35.out; omega); intro v395 w54 ho hb hg hat; rw [← Ny394.out] at ho; have n0_ := Aside0.mk (blk_grown (g := gb385) (o := .cells #[.int .i64 a0_0, .int .i64 a0_1, .int .i64 a0_2, .int .i64 a0_3, .slice (some ad386) l0_4.length c0_4] 33 (0, 0)) (by (with_reducible repeat (first | refine blk_drewN ?_ _ | refine blk_drew ?_ | refine blk_alloc ?_ _)); exact BK385.out) hg (Kd.S_ne HO_3.out BK385.out (by decide))); have n1_ := Aside0.mk (hb); have n2_ := Aside0.mk (ho); clear BK385; clear HB; clear HO_3; have BK385 := n0_; have HB := n1_; have HO396 := n2_; clear n0_ n1_ n2_; clear ho hb hg hat; obtain ⟨Ao55, co55, eo55⟩ := Kd.S_slice HO396.out; subst eo55; have p36 : 0 ≤ (0 : Int) := (by omega); have q36 : 0 < (rdOf ByteArray.empty l0_4 x6_1).size := (by have : (0 : Int) < ((rdOf ByteArray.empty l0_4 x6_1).size : Int) := of_decide_eq_true (by first | (with_reducible assumption) | assumption); omega); have hx36 : ∀ h : 0 < (rdOf ByteArray.empty l0_4 x6_1).size, (((rdOf ByteArray.empty l0_4 x6_1)[0]'h).toNat : Int) = bt (rdOf ByteArray.empty l0_4 x6_1) 0 := bt_at (rdOf ByteArray.empty l0_4 x6_1) 0; clear p36; have qi36 : (0 < ((rdOf ByteArray.empty l0_4 x6_1).size : Int)) = True := eq_true (of_decide_eq_true (by first | (with_reducible assumption) | assumption)); replace q36 := eq_true q36))
              have n0_ := Aside0.mk (Kd.S_drew HO396.out)
              have n1_ := Aside0.mk (blk_drew BK385.out)
              have n2_ := Aside0.mk (below_drew1 HB.out)
              clear HO396
              clear BK385
              clear HB
              have HO396 := n0_
              have BK385 := n1_
              have HB := n2_
              clear n0_ n1_ n2_
              have p399 : 0 ≤ ((ji47) : Int) := of_decide_eq_true (by first | (with_reducible assumption) | assumption)
              have q399 : (ji47) < (y394.length : Int) := of_decide_eq_true (by first | (with_reducible assumption) | assumption)
              obtain ⟨ad399, A399_2, c399_2, e399, hx399_0, hx399_1, hx399_2, hl399_2, hi399_2⟩ := at_T51 (Kd.S_reads' HO396.out).2.2 (ji47) p399 q399
              cases e399
              obtain ⟨ce399, hce399, hMe399, hcc399⟩ := Kd.S_get HO396.out z51 (ji47) p399 (by first | exact q399 | exact of_decide_eq_true (by first | (with_reducible assumption) | assumption) | (have e_ := (Kd.S_reads' HO396.out).1; omega))
              obtain ⟨ve399_2, rfl, ge399_2⟩ := k51_openM hMe399
              have hv399_2 := hcc399 2 _ rfl
              rw [add_field _ _ 2 (by omega)] at hv399_2
              replace hv399_2 := Option.some.inj (hv399_2.symm.trans hx399_2)
              rw [hv399_2] at ge399_2
              have HL399_2 := Aside0.mk (show Kd.R Kd.string 9 _ _ _ _ ((rd_T51 y394 (ji47)).f2) from ge399_2)
              clear hv399_2 ge399_2
              have HX399_2 := Aside0.mk hx399_2
              clear hcc399 hce399
              have HR399_2 := Aside0.mk hi399_2
              have HC399_2 := Aside0.mk hl399_2
              clear hi399_2 hl399_2
              replace p399 := eq_true p399
              replace q399 := eq_true q399
              obtain ⟨go57, co57, eo57, gb57, gl57, cl57, HG57⟩ := Kd.S_form HO396.out (by have h_ : ((ji47) : Int) < ((y394.length : Int) : Int) := of_decide_eq_true (by first | (with_reducible assumption) | assumption); have h2_ : 0 ≤ ((ji47) : Int) := (of_decide_eq_true (by first | (with_reducible assumption) | assumption)); omega)
              (first | cases eo57 | (injection eo57 with ea_ en_ ec_; (first | subst ea_ | (injection ea_ with ea_; subst ea_)); subst ec_; clear en_))
              have GB57 := Aside0.mk gb57
              have GG57 := Aside0.mk HG57
              clear gb57 gl57 HG57
              (first | simp only [add_plain] at hx399_0 | skip)
              (first | simp only [add_plain] at hx399_1 | skip)
              (first | simp only [add_plain] at hx399_2 | skip)
              obtain ⟨oki57, ce57, hcl57, hM57, hcc57, _, _, hH57⟩ := Kd.S_elem HO396.out z51 ((ji47) : Int) (of_decide_eq_true (by first | (with_reducible assumption) | assumption)) (by have h_ : ((ji47) : Int) < ((y394.length : Int) : Int) := of_decide_eq_true (by first | (with_reducible assumption) | assumption); first | exact h_ | (have e_ := (Kd.S_reads' HO396.out).1; omega) | simpa using h_)
              obtain ⟨ve57_2, rfl, ge57_2⟩ := k51_openM hM57
              have hv57 := hcc57 2 _ rfl
              have hX57 := HX399_2.out
              (try simp only [add_plain] at hX57)
              (try simp only [Nat.add_zero] at hv57)
              replace hv57 := Option.some.inj (hv57.symm.trans hX57)
              subst hv57
              clear hX57 hcc57 hcl57
              have UU57 := Aside0.mk (show Kd.R Kd.string 9 _ w.heap.size oki57 (.slice A399_2 ((rd_T51 y394 (ji47)).f2).length c399_2) ((rd_T51 y394 (ji47)).f2) from ge57_2)
              have HH57 := Aside0.mk hH57
              have HN57 := Aside0.mk (Kd.S_reads' HO396.out).1
              clear hH57 ge57_2
              refine start_ (n := 14) (S := fun w' => w'.cell? ⟨go57, ((ji47)).toNat * 3, none⟩ = some (.int .i64 ((rd_T51 y394 (ji47)).f0)) ∧ w'.cell? ⟨go57, ((ji47)).toNat * 3 + 1, none⟩ = some (.int .i64 ((rd_T51 y394 (ji47)).f1)) ∧ w'.cell? ⟨go57, ((ji47)).toNat * 3 + 2, none⟩ = some (.slice A399_2 ((rd_T51 y394 (ji47)).f2).length c399_2)) (ds := [13]) #[false, false, false, false, false, false, false, false, false, false, false, false, false, false] (by kernel_rfl) rfl rfl ⟨hx399_0, hx399_1, hx399_2⟩ (fun hHeld => ?_); refine with_tabW grapevineref05_Edits.tab18 grapevineref05_Edits.bits18 (fun HT_ HW_ => ?_)
              generalize w54.drew = w56 at HO396 BK385 HB GG57 HH57 HL399_2 HR399_2 HX399_2 UU57 hx399_0 hx399_1 hx399_2 hHeld ⊢
              refine pure_ (i := 0) (N := some 53) (v := ?_) (a' := ?_) #[true, false, false, false, false, false, false, false, false, false, false, false, false, false] rfl rfl (any_of HT_.out (by kernel_rfl)) (fun _ _ _ h => h) (Or.inl ⟨by rfl, ?_⟩) ?_ ?_
              rotate_left
              ·intro w'
               go_simp
               with_reducible rfl
              rotate_left
              ·simp only [Act.put, List.setIfInBounds_toArray, List.set_cons_zero, List.set_cons_succ, i64_w, i32_w]
               rfl
              refine pure_ (i := 1) (N := some 54) (v := ?_) (a' := ?_) #[true, true, false, false, false, false, false, false, false, false, false, false, false, false] rfl rfl (any_of HT_.out (by kernel_rfl)) (fun _ _ _ h => h) (Or.inl ⟨by rfl, ?_⟩) ?_ ?_
              rotate_left
              ·intro w'
               go_simp
               with_reducible rfl
              rotate_left
              ·simp only [Act.put, List.setIfInBounds_toArray, List.set_cons_zero, List.set_cons_succ, i64_w, i32_w]
               rfl
              refine pure_ (i := 2) (N := some 55) (v := ?_) (a' := ?_) #[true, true, true, false, false, false, false, false, false, false, false, false, false, false] rfl rfl (any_of HT_.out (by kernel_rfl)) (fun _ _ _ h => h) (Or.inl ⟨by rfl, ?_⟩) ?_ ?_
              rotate_left
              ·intro w'
               go_simp
               with_reducible rfl
              rotate_left
              ·simp only [Act.put, List.setIfInBounds_toArray, List.set_cons_zero, List.set_cons_succ, i64_w, i32_w]
               rfl
              refine pure_ (i := 3) (N := some 56) (v := ?_) (a' := ?_) #[true, true, true, true, false, false, false, false, false, false, false, false, false, false] rfl rfl (any_of HT_.out (by kernel_rfl)) (fun _ _ _ h => h) (Or.inl ⟨by rfl, ?_⟩) ?_ ?_
              rotate_left
              ·intro w'
               go_simp
               with_reducible rfl
              rotate_left
              ·simp only [Act.put, List.setIfInBounds_toArray, List.set_cons_zero, List.set_cons_succ, i64_w, i32_w]
               rfl
              refine pure_ (i := 4) (N := some 57) (v := ?_) (a' := ?_) #[true, true, true, true, true, false, false, false, false, false, false, false, false, false] rfl rfl (any_of HT_.out (by kernel_rfl)) (fun _ _ _ h => h) (Or.inl ⟨by rfl, ?_⟩) ?_ ?_
              rotate_left
              ·intro w'
               go_simp
               with_reducible rfl
              rotate_left
              ·simp only [Act.put, List.setIfInBounds_toArray, List.set_cons_zero, List.set_cons_succ, i64_w, i32_w]
               rfl
              refine pure_ (i := 5) (N := some 58) (v := ?_) (a' := ?_) #[true, true, true, true, true, true, false, false, false, false, false, false, false, false] rfl rfl (any_of HT_.out (by kernel_rfl)) (fun _ _ _ h => h) (Or.inl ⟨by rfl, ?_⟩) ?_ ?_
              rotate_left
              ·intro w'
               go_simp
               with_reducible rfl
              rotate_left
              ·simp only [Act.put, List.setIfInBounds_toArray, List.set_cons_zero, List.set_cons_succ, i64_w, i32_w]
               rfl
              refine pure_ (i := 7) (N := some 60) (v := ?_) (a' := ?_) #[true, true, true, true, true, true, false, true, false, false, false, false, false, false] rfl rfl (any_of HT_.out (by kernel_rfl)) (fun _ _ _ h => h) (Or.inl ⟨by rfl, ?_⟩) ?_ ?_
              rotate_left
              ·intro w'
               go_simp
               with_reducible rfl
              rotate_left
              ·simp only [Act.put, List.setIfInBounds_toArray, List.set_cons_zero, List.set_cons_succ, i64_w, i32_w]
               rfl
              refine pure_ (i := 8) (N := some 61) (v := ?_) (a' := ?_) #[true, true, true, true, true, true, false, true, true, false, false, false, false, false] rfl rfl (any_of HT_.out (by kernel_rfl)) (fun _ _ _ h => h) (Or.inl ⟨by rfl, ?_⟩) ?_ ?_
              rotate_left
              ·intro w'
               go_simp
               with_reducible rfl
              rotate_left
              ·simp only [Act.put, List.setIfInBounds_toArray, List.set_cons_zero, List.set_cons_succ, i64_w, i32_w]
               rfl
              refine take_ (i := 6) (N := some 59) (v := ?_) (a' := ?_) #[true, true, true, true, true, true, true, true, true, false, false, false, false, false] rfl rfl (take_ofW HT_.out HW_.out (by kernel_rfl)) (fun _ _ _ h => h) (Or.inl ⟨by rfl, ?_⟩) hHeld ?_ ?_
              rotate_left
              ·rintro w' ⟨s0, s1, s2⟩
               go_simp
               with_reducible rfl
              rotate_left
              ·simp only [Act.put, List.setIfInBounds_toArray, List.set_cons_zero, List.set_cons_succ, i64_w, i32_w]
               rfl
              refine one_ (i := 9) (N := some 62) #[true, true, true, true, true, true, true, true, true, true, false, false, false, false] rfl rfl (one_of HT_.out (by kernel_rfl)) (by decide) (fun K hK => ?_)
              refine value_ (w1 := ?_) (v := ?_) (by rfl) rfl ?_ ?_
              rotate_left 2
              ·go_simp
               constructor
               ·rfl
               ·rfl
              refine hK.out _ _ ⟨(World.cell?_alloc_lt _ _ _ (World.block_lt_of_cell? _ _ (hHeld.1))).trans (hHeld.1), (World.cell?_alloc_lt _ _ _ (World.block_lt_of_cell? _ _ (hHeld.2.1))).trans (hHeld.2.1), (World.cell?_alloc_lt _ _ _ (World.block_lt_of_cell? _ _ (hHeld.2.2))).trans (hHeld.2.2)⟩ (fun hHeld => ?_)
              clear hK K
              refine norm_ (a' := ?_) ?_ ?_
              rotate_left
              ·show Act.put _ (some 62) _ = _
               simp only [Act.put, List.setIfInBounds_toArray, List.set_cons_zero, List.set_cons_succ, i64_w, i32_w]
               rfl
              refine one_ (i := 10) (N := some 63) #[true, true, true, true, true, true, true, true, true, true, true, false, false, false] rfl rfl (one_of HT_.out (by kernel_rfl)) (by decide) (fun K hK => ?_)
              refine Kd.R_append_step Kd.string (w0 := w) w.heap.size (by rfl) (.tmp 59) (.tmp 62) 22 9 (.string ⟨#[]⟩) 16 rfl Try.underlying22 info9 rfl (by decide) (by omega) (.slice A399_2 ((rd_T51 y394 (ji47)).f2).length c399_2) ((rd_T51 y394 (ji47)).f2) ((rdOf ByteArray.empty l0_4 x6_1).extract 1 (rdOf ByteArray.empty l0_4 x6_1).size) [.string ((rdOf ByteArray.empty l0_4 x6_1).extract 1 (rdOf ByteArray.empty l0_4 x6_1).size)] (fun k_ => oki57 k_ ∨ ((fun _ => True)) k_ ∧ w56.heap.size ≤ k_) (fun _ => False) rfl rfl ?aP (fun _ hk => hk.elim) ?aF ?aO ?aB ?aS ?aL ?_
              (case aP => exact rfl)
              (case aB => exact (by repeat (first | (with_reducible first | exact HB.out | apply below_alloc | apply pw_below_drewN | apply below_drew1 | refine below_set ?_ GE385.out) | exact HB.out)))
              (case aF => exact (fun k_ hk => .inr ⟨trivial, hk⟩))
              (case aO => exact (by (with_reducible repeat (first | apply Kd.R_alloc | apply Kd.R_drewN | apply Kd.R_drew)); exact Kd.R_mono UU57.out (fun _ hk => .inl hk)))
              (case aS => exact (below_size (by repeat (first | (with_reducible first | exact HB.out | apply below_alloc | apply pw_below_drewN | apply below_drew1 | refine below_set ?_ GE385.out) | exact HB.out))))
              (case aL => have := LMc51.out; omega)
              intro v401 w58 ho hb hg hat
              (first | have HS0_ := cell_grown hg (hHeld.1) (by first | (rw [add_block]; exact (fun e_ => ((HL399_2.out.1 _ e_.symm).2) rfl)) | (show some (Addr.add _ _).block ≠ _; rw [add_block]; exact (fun e_ => ((HL399_2.out.1 _ e_.symm).2) rfl)) | exact (fun e_ => ((HL399_2.out.1 _ e_.symm).2) rfl)) | have HS0_ := cell_grown hg (cell_unalloc (hHeld.1) (by first | (rw [add_block]; exact Kd.S_lt HO396.out _ rfl) | (show (Addr.add _ _).block < _; rw [add_block]; exact Kd.S_lt HO396.out _ rfl) | exact Kd.S_lt HO396.out _ rfl)) (by first | (rw [add_block]; exact (fun e_ => ((HL399_2.out.1 _ e_.symm).2) rfl)) | (show some (Addr.add _ _).block ≠ _; rw [add_block]; exact (fun e_ => ((HL399_2.out.1 _ e_.symm).2) rfl)) | exact (fun e_ => ((HL399_2.out.1 _ e_.symm).2) rfl)))
              (first | have HS1_ := cell_grown hg (hHeld.2.1) (by first | (rw [add_block]; exact (fun e_ => ((HL399_2.out.1 _ e_.symm).2) rfl)) | (show some (Addr.add _ _).block ≠ _; rw [add_block]; exact (fun e_ => ((HL399_2.out.1 _ e_.symm).2) rfl)) | exact (fun e_ => ((HL399_2.out.1 _ e_.symm).2) rfl)) | have HS1_ := cell_grown hg (cell_unalloc (hHeld.2.1) (by first | (rw [add_block]; exact Kd.S_lt HO396.out _ rfl) | (show (Addr.add _ _).block < _; rw [add_block]; exact Kd.S_lt HO396.out _ rfl) | exact Kd.S_lt HO396.out _ rfl)) (by first | (rw [add_block]; exact (fun e_ => ((HL399_2.out.1 _ e_.symm).2) rfl)) | (show some (Addr.add _ _).block ≠ _; rw [add_block]; exact (fun e_ => ((HL399_2.out.1 _ e_.symm).2) rfl)) | exact (fun e_ => ((HL399_2.out.1 _ e_.symm).2) rfl)))
              (first | have HS2_ := cell_grown hg (hHeld.2.2) (by first | (rw [add_block]; exact (fun e_ => ((HL399_2.out.1 _ e_.symm).2) rfl)) | (show some (Addr.add _ _).block ≠ _; rw [add_block]; exact (fun e_ => ((HL399_2.out.1 _ e_.symm).2) rfl)) | exact (fun e_ => ((HL399_2.out.1 _ e_.symm).2) rfl)) | have HS2_ := cell_grown hg (cell_unalloc (hHeld.2.2) (by first | (rw [add_block]; exact Kd.S_lt HO396.out _ rfl) | (show (Addr.add _ _).block < _; rw [add_block]; exact Kd.S_lt HO396.out _ rfl) | exact Kd.S_lt HO396.out _ rfl)) (by first | (rw [add_block]; exact (fun e_ => ((HL399_2.out.1 _ e_.symm).2) rfl)) | (show some (Addr.add _ _).block ≠ _; rw [add_block]; exact (fun e_ => ((HL399_2.out.1 _ e_.symm).2) rfl)) | exact (fun e_ => ((HL399_2.out.1 _ e_.symm).2) rfl)))
              rw [← Ny400.out] at ho
              have n0_ := Aside0.mk (blk_grown (g := gb385) (o := .cells #[.int .i64 a0_0, .int .i64 a0_1, .int .i64 a0_2, .int .i64 a0_3, .slice (some ad386) l0_4.length c0_4] 33 (0, 0)) (by (with_reducible repeat (first | refine blk_drewN ?_ _ | refine blk_drew ?_ | refine blk_alloc ?_ _)); exact BK385.out) hg (Kd.R_ne HL399_2.out BK385.out (by decide)))
              have n1_ := Aside0.mk (hb)
              have n2_ := Aside0.mk (Kd.H_grown (Kd.H_widen (by repeat (first | exact HH57.out | refine Kd.H_alloc ?_ _ | refine Kd.H_drewN ?_ _ | refine Kd.H_drew ?_))) hg (fun k_ e_ => .inl (UU57.out.1 k_ e_)))
              have n3_ := Aside0.mk (ho)
              clear BK385
              clear HB
              clear HH57
              clear HO396
              clear UU57
              clear HL399_2
              have BK385 := n0_
              have HB := n1_
              have HH57 := n2_
              have HO402 := n3_
              clear n0_ n1_ n2_ n3_
              clear ho hb hg hat
              have p52 : 0 ≤ ((ji47) : Int) := of_decide_eq_true (by first | (with_reducible assumption) | assumption)
              have q52 : ((ji47) : Int) < ((y394.length : Int) : Int) := of_decide_eq_true (by first | (with_reducible assumption) | assumption)
              replace p52 := eq_true p52
              replace q52 := eq_true q52
              obtain ⟨Ao61, co61, eo61⟩ := Kd.R_slice HO402.out
              (first | subst eo61 | (injection eo61 with f1_ f2_ f3_; have f4_ := f1_.symm; have f5_ := f3_.symm; clear f1_ f2_ f3_; subst f4_; subst f5_))
              obtain ⟨_, _, hraw59, _, _, hcc59, _⟩ := Kd.H_raw HH57.out (of_decide_eq_true (by first | (with_reducible assumption) | assumption)) (by have h_ : ((ji47) : Int) < ((y394.length : Int) : Int) := of_decide_eq_true (by first | (with_reducible assumption) | assumption); first | exact h_ | (have e_ := (HN57.out); omega) | simpa using h_)
              obtain ⟨_, hfr59⟩ := Kd.H_at HH57.out (of_decide_eq_true (by first | (with_reducible assumption) | assumption)) (by have h_ : ((ji47) : Int) < ((y394.length : Int) : Int) := of_decide_eq_true (by first | (with_reducible assumption) | assumption); first | exact h_ | (have e_ := (HN57.out); omega) | simpa using h_)
              have hx59_0 := hcc59 2 _ rfl
              have hf59_0 := hfr59 2
              (try rw [show (k51).sz = 3 from rfl] at hx59_0)
              (try rw [show (k51).sz = 3 from rfl] at hf59_0)
              have HP59 := Kd.S_seg0 HH57.out (of_decide_eq_true (by first | (with_reducible assumption) | assumption)) (by have h_ : ((ji47) : Int) < ((y394.length : Int) : Int) := of_decide_eq_true (by first | (with_reducible assumption) | assumption); first | exact h_ | (have e_ := (HN57.out); omega) | simpa using h_) (seg := [.slice Ao61 y400.length co61]) (j := 2) (show 3 ≤ 3 from by decide) (x' := (⟨(rd_T51 y394 (ji47)).f0, (rd_T51 y394 (ji47)).f1, y400⟩ : S51)) (k51_mkM _ _ _ (⟨(rd_T51 y394 (ji47)).f0, (rd_T51 y394 (ji47)).f1, y400⟩ : S51) HO402.out) (fun _ hk => hk)
              clear hcc59 hfr59
              have HNB385_go57 := Aside0.mk (show gb385 ≠ go57 from by have h_ := Kd.R_ne hraw59 BK385.out (by decide); intro e_; exact h_ (by rw [e_]; rfl))
              have HS59 := HP59.1
              rw [← Ny403.out] at HS59
              have HQ59 := Aside0.mk HS59
              obtain ⟨_, hgg59⟩ := Kd.R_typed hraw59 go57 rfl
              have GG59_ := Aside0.mk hgg59
              clear HP59 HS59 hgg59
              refine hK.out _ _ ⟨HS0_, HS1_, HS2_⟩ (fun hHeld => ?_)
              clear hK K
              refine norm_ (a' := ?_) ?_ ?_
              rotate_left
              ·show Act.put _ (some 63) _ = _
               simp only [Act.put, List.setIfInBounds_toArray, List.set_cons_zero, List.set_cons_succ, i64_w, i32_w]
               rfl
              refine pure_ (i := 11) (N := some 64) (v := ?_) (a' := ?_) #[true, true, true, true, true, true, true, true, true, true, true, true, false, false] rfl rfl (any_of HT_.out (by kernel_rfl)) (fun _ _ _ h => h) (Or.inl ⟨by rfl, ?_⟩) ?_ ?_
              rotate_left
              ·intro w'
               go_simp
               with_reducible rfl
              rotate_left
              ·simp only [Act.put, List.setIfInBounds_toArray, List.set_cons_zero, List.set_cons_succ, i64_w, i32_w]
               rfl
              refine pure_ (i := 12) (N := some 65) (v := ?_) (a' := ?_) #[true, true, true, true, true, true, true, true, true, true, true, true, true, false] rfl rfl (any_of HT_.out (by kernel_rfl)) (fun _ _ _ h => h) (Or.inl ⟨by rfl, ?_⟩) ?_ ?_
              rotate_left
              ·intro w'
               go_simp
               with_reducible rfl
              rotate_left
              ·simp only [Act.put, List.setIfInBounds_toArray, List.set_cons_zero, List.set_cons_succ, i64_w, i32_w]
               rfl
              refine last_ (i := 13) (N := none) #[true, true, true, true, true, true, true, true, true, true, true, true, true, true] rfl rfl (one_of HT_.out (by kernel_rfl)) (by decide) (fun K hK => ?_)
              refine skip_ (w1 := ?_) (by rfl) rfl ?_ ?_
              rotate_left
              ·go_simp
               rfl
              refine hK.out _ _ ?_
              clear hK K
              refine done_ (done_of HT_.out (by kernel_rfl)) ?_
              try go_wp2
              go_roundg k1
              case measure => have := HK1.out; omega
              case rel => exact ⟨(y403), (x4_1), (true), (wrap64 (x6_1 + 1)), (by first | rfl | (simp; done) | (simp [*]; done)), (by first | rfl | (simp; done) | (simp [*]; done)), (by first | rfl | (simp; done) | (simp [*]; done)), H', ⟨by have := HK1.out; omega⟩, ⟨by (with_reducible repeat (first | apply Kd.S_alloc | apply Kd.S_drewN | apply Kd.S_drew)); exact HQ59.out⟩, ⟨by (with_reducible repeat (first | refine blk_drewN ?_ _ | refine blk_drew ?_ | refine blk_alloc ?_ _)); refine blk_far ?_ HNB385_go57.out _; (with_reducible repeat (first | refine blk_drewN ?_ _ | refine blk_drew ?_ | refine blk_alloc ?_ _)); exact BK385.out⟩, ⟨by repeat (first | (with_reducible first | exact HB.out | apply below_alloc | apply pw_below_drewN | apply below_drew1 | refine below_set ?_ GB57.out | refine below_set ?_ GE385.out) | exact HB.out)⟩⟩
             ·rw [if_neg c51] at H
              exact absurd H (by simp)
            ·rw [if_neg c50] at H
             exact absurd H (by simp)
           ·rw [if_neg c49] at H
            exact absurd H (by simp)
          ·rw [if_neg c48] at H
           exact absurd H (by simp)
        ·rw [if_neg c35] at H
         exact absurd H (by simp)
     ·rw [if_neg c6] at H
      exact absurd H (by simp)
    ·rw [if_neg c5] at H
     exact absurd H (by simp)
   ·rw [if_neg c4] at H
    have c4b0 : decide (x6_1 < (l0_4.length : Int)) = false := decide_eq_false c4
    clear c4
    obtain rfl := Option.some.inj H
    have hcz62_0 : wr.cell? ⟨gb385, 0, none⟩ = some (.int .i64 a0_0) := (blk_cell BK385.out 0).trans rfl
    have hcz62_1 : wr.cell? ⟨gb385, 1, none⟩ = some (.int .i64 a0_1) := (blk_cell BK385.out 1).trans rfl
    have hcz62_2 : wr.cell? ⟨gb385, 2, none⟩ = some (.int .i64 a0_2) := (blk_cell BK385.out 2).trans rfl
    have hcz62_3 : wr.cell? ⟨gb385, 3, none⟩ = some (.int .i64 a0_3) := (blk_cell BK385.out 3).trans rfl
    have hcz62_4 : wr.cell? ⟨gb385, 4, none⟩ = some (.slice A0_4 l0_4.length c0_4) := (blk_cell BK385.out 4).trans rfl
    have hfz62_0 := blk_frozen BK385.out 0
    have hfz62_1 := blk_frozen BK385.out 1
    have hfz62_2 := blk_frozen BK385.out 2
    have hfz62_3 := blk_frozen BK385.out 3
    have hfz62_4 := blk_frozen BK385.out 4
    go_wp2
    go_ret
    exact ⟨_, by first | rfl | (simp [errW_none, errW_some] <;> rfl) | (simp [*, errW_none, errW_some] <;> rfl), by (with_reducible repeat (first | apply Kd.S_alloc | apply Kd.S_drewN | apply Kd.S_drew)); exact HO_3.out, by repeat (first | (with_reducible first | exact HB.out | apply below_alloc | apply pw_below_drewN | apply below_drew1 | refine below_set ?_ GE385.out) | exact HB.out)⟩

end Go.Proofs.Ytlabiajcohmjhaa.Pr
-- shrunk
