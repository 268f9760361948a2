-- written by a program of this session's (a turned copy of the kit's printer); Lean checks it
import Derived.Test.YtoaijganmfijmaaK0
namespace Go.Proofs.Ytoaijganmfijmaa.Pr
open Go.RowKit Go.Proofs.YtoaijganmfijmaaW.PrintWords Go.Proofs.YtoaijganmfijmaaW.PrintLast Go.Proofs.YtoaijganmfijmaaW.PrintMore
attribute [local go_sem] max2_int min2_int max_two min_two max_three min_three max_four min_four   -- for this text's walks alone
set_option linter.unusedVariables false
set_option linter.unusedSimpArgs false

def hunk_Turn.l0 : Nat → List ByteArray → Int → Int → Int → Int → List ByteArray → Option (Int × Int × Int × Int × List ByteArray)
 | 0, _, _, _, _, _, _ => none
 | k + 1, x4, x132000, x132001, x132002, x132003, x132004 => if (x4.length : Int) > 0 then ((hunk_run.f k x4 32).bind fun t132 => (if 0 ≤ t132 then (if t132 ≤ (x4.length : Int) then ((hunk_run.f k (x4.drop (t132 : Int).toNat) 45).bind fun t138 => (if 0 ≤ (wrap64 (t132 + t138)) then (if (wrap64 (t132 + t138)) ≤ (x4.length : Int) then ((hunk_run.f k (x4.drop ((wrap64 (t132 + t138)) : Int).toNat) 43).bind fun t144 => (if (wrap64 (t132 + t138)) ≤ (wrap64 ((wrap64 (t132 + t138)) + t144)) then (if (wrap64 ((wrap64 (t132 + t138)) + t144)) ≤ (x4.length : Int) then ((hunk_bare.f k ((x4.take ((wrap64 ((wrap64 (t132 + t138)) + t144)) : Int).toNat).drop ((wrap64 (t132 + t138)) : Int).toNat)).bind fun t155 => ((hunk_signed.f k 45 t155).bind fun t158 => (if t132 ≤ (wrap64 (t132 + t138)) then ((hunk_bare.f k ((x4.take ((wrap64 (t132 + t138)) : Int).toNat).drop (t132 : Int).toNat)).bind fun t166 => ((hunk_signed.f k 43 t166).bind fun t169 => ((slices_Concat_string_string.f (([x132004, (x4.take (t132 : Int).toNat), t158, t169] : List (List ByteArray)))).bind fun t175 => (if 0 ≤ (wrap64 ((wrap64 (t132 + t138)) + t144)) then (hunk_Turn.l0 k (x4.drop ((wrap64 ((wrap64 (t132 + t138)) + t144)) : Int).toNat) x132000 x132001 x132002 x132003 t175) else (none))))) else (none)))) else (none)) else (none))) else (none)) else (none))) else (none)) else (none))) else (some (x132000, x132001, x132002, x132003, x132004))
def hunk_Turn.f (k : Nat) (a0_0 : Int) (a0_1 : Int) (a0_2 : Int) (a0_3 : Int) (l0_4 : List ByteArray) : Option (Int × Int × Int × Int × List ByteArray) := hunk_Turn.l0 k l0_4 a0_2 a0_3 a0_0 a0_1 ([] : List ByteArray)
theorem hunk_Turn.mono_l : ∀ k, (∀ y0 y1 y2 y3 y4 y5, LeO (hunk_Turn.l0 k y0 y1 y2 y3 y4 y5) (hunk_Turn.l0 (k + 1) y0 y1 y2 y3 y4 y5))
 | 0 => fun _ _ _ _ _ _ r h => by simp [hunk_Turn.l0] at h
 | k + 1 => by
  have ih0 := hunk_Turn.mono_l k
  ·intro y0 y1 y2 y3 y4 y5
   unfold hunk_Turn.l0
   repeat' first
   | (with_reducible exact ih0 _ _ _ _ _ _)
   | (with_reducible exact hunk_bare.mono _ _)
   | (with_reducible exact hunk_run.mono _ _ _)
   | (with_reducible exact hunk_signed.mono _ _ _)
   | (with_reducible exact LeO.refl _)
   | (with_reducible exact LeO.none _)
   | (with_reducible refine LeO.ite ?_ ?_)
   | (with_reducible refine LeO.bind ?_ (fun _ => ?_))
   | exact ih0 _ _ _ _ _ _
   | exact hunk_bare.mono _ _
   | exact hunk_run.mono _ _ _
   | exact hunk_signed.mono _ _ _
   | exact LeO.none _
   | refine LeO.ite ?_ ?_
   | refine LeO.bind ?_ (fun _ => ?_)
theorem hunk_Turn.mono : ∀ a0 a1 a2 a3 a4 k, LeO (hunk_Turn.f k a0 a1 a2 a3 a4) (hunk_Turn.f (k + 1) a0 a1 a2 a3 a4) := by
 intro a0 a1 a2 a3 a4 k
 have ih0 := hunk_Turn.mono_l k
 unfold hunk_Turn.f
 repeat' first
   | (with_reducible exact ih0 _ _ _ _ _ _)
   | (with_reducible exact hunk_bare.mono _ _)
   | (with_reducible exact hunk_run.mono _ _ _)
   | (with_reducible exact hunk_signed.mono _ _ _)
   | (with_reducible exact LeO.refl _)
   | (with_reducible exact LeO.none _)
   | (with_reducible refine LeO.ite ?_ ?_)
   | (with_reducible refine LeO.bind ?_ (fun _ => ?_))
   | exact ih0 _ _ _ _ _ _
   | exact hunk_bare.mono _ _
   | exact hunk_run.mono _ _ _
   | exact hunk_signed.mono _ _ _
   | exact LeO.none _
   | refine LeO.ite ?_ ?_
   | refine LeO.bind ?_ (fun _ => ?_)
def hunk_Turn.T7 : Bool × List (List Nat × List Nat) := (true, [([], []), ([0], [0]), ([], []), ([], []), ([2, 3], [2, 3]), ([], []), ([], []), ([], []), ([5, 6, 7], [5, 6, 7]), ([8], [8]), ([9, 9], [9]), ([], []), ([], []), ([], []), ([11, 12, 13], [11, 12, 13]), ([14, 10], [14]), ([15, 15], [15]), ([1, 4, 10, 16], [1, 4, 10, 16]), ([17, 16], [17]), ([0, 1, 2, 3, 4, 5, 6, 7, 8, 9, 10, 11, 12, 13, 14, 15, 16, 17, 18], []), ([19, 18, 18, 0, 1, 2, 3, 4, 5, 6, 7, 8, 9, 10, 11, 12, 13, 14, 15, 16, 17, 18], [18, 19])])
def hunk_Turn.B7 : List Nat := [0, 1, 0, 0, 12, 0, 0, 0, 224, 480, 992, 0, 0, 0, 14336, 32736, 65504, 131071, 262143, 524287, 1048575]
theorem hunk_Turn.tab7 : rtab .any (opsOf Try.f27 7) = hunk_Turn.T7 := by kernel_rfl
theorem hunk_Turn.bits7 : waitsOk hunk_Turn.T7.2 hunk_Turn.B7 = true := by kernel_rfl
set_option maxHeartbeats 8000000 in
set_option maxRecDepth 100000 in
theorem hunk_Turn.calls (k : Nat) (a0_0 : Int) (a0_1 : Int) (a0_2 : Int) (a0_3 : Int) (P0_4_ : Nat → Prop) (A0_4 : Option Addr) (c0_4 : Nat) (l0_4 : List ByteArray) (r1 : Int) (r2 : Int) (r3 : Int) (r4 : Int) (r5 : List ByteArray) (w : World) (hs0_4 : Kd.V Kd.string 9 w w.heap.size (fun k_ => P0_4_ k_) (.slice A0_4 l0_4.length c0_4) l0_4) (h : hunk_Turn.f k a0_0 a0_1 a0_2 a0_3 l0_4 = some (r1, r2, r3, r4, r5)) :
  Calls Try.prog 27 #[.agg #[.int .i64 a0_0, .int .i64 a0_1, .int .i64 a0_2, .int .i64 a0_3, .slice A0_4 l0_4.length c0_4]] w fun e w' => ∃ v4_ : Value, e = .returned (.agg #[.int .i64 r1, .int .i64 r2, .int .i64 r3, .int .i64 r4, v4_]) ∧ Kd.R Kd.string 9 w' w.heap.size (fun k_ => (w.heap.size ≤ k_)) v4_ r5 ∧ Below w.heap.size w w' := by
 have hu41 := Try.underlying41
 have HO0_4 := Aside0.mk (show Kd.V Kd.string 9 w w.heap.size (fun k_ => (P0_4_ k_ ∨ w.heap.size ≤ k_)) (.slice A0_4 l0_4.length c0_4) l0_4 from Kd.V_mono hs0_4 (fun k_ hk => .inl hk))
 have HB := Aside0.mk (Below.refl w.heap.size w)
 have H : (hunk_Turn.l0 k l0_4 a0_2 a0_3 a0_0 a0_1 ([] : List ByteArray)) = some (r1, r2, r3, r4, r5) := h
 clear h
 have H' := Aside0.mk H
 clear H
 go_enter Try.func27, Try.ntmps27
 go_wp2_with (first | ((with_reducible refine gate_dst (N := 1) rfl ?_); refine box_event ?hg (N := 1) ?hd (cs := #[.int .i64 a0_0, .int .i64 a0_1, .int .i64 a0_2, .int .i64 a0_3, .slice A0_4 l0_4.length c0_4]) (t := 41) ?hr ?_; (case hd => rfl); (case hg => rfl); (case hr => first | (go_simp; done) | (go_simp; rfl)); intro gb129 hg w2 hbox hb; have n0_ := Aside0.mk (Kd.V_below (Kd.V_elderB (by (with_reducible repeat (first | apply Kd.V_alloc | apply Kd.V_drewN | apply Kd.V_drew)); exact HO0_4.out) gb129 (Nat.le_of_eq hg.symm)) hb); have n1_ := Aside0.mk (below_step (by repeat (first | (with_reducible first | exact HB.out | apply below_alloc | apply pw_below_drewN | apply below_drew1) | exact HB.out)) hb); have n2_ := Aside0.mk (hbox); have n3_ := Aside0.mk ((by rw [hg]; exact (below_size (by repeat (first | (with_reducible first | exact HB.out | apply below_alloc | apply pw_below_drewN | apply below_drew1) | exact HB.out))) : w.heap.size ≤ gb129)); have n4_ := Aside0.mk ((by rw [hg]; exact (below_size (by repeat (first | (with_reducible first | exact HB.out | apply below_alloc | apply pw_below_drewN | apply below_drew1) | exact HB.out))) : w.heap.size ≤ gb129)); clear HO0_4; clear HB; have HO0_4 := n0_; have HB := n1_; have BK129 := n2_; have GW129 := n3_; have GE129 := n4_; clear n0_ n1_ n2_ n3_ n4_; clear hb hbox hg) | ((with_reducible refine gate_dst (N := 2) rfl ?_); refine box_event ?hg (N := 2) ?hd (cs := #[.int .i64 0, .int .i64 0, .int .i64 0, .int .i64 0, .slice none 0 0]) (t := 41) ?hr ?_; (case hd => rfl); (case hg => rfl); (case hr => first | (go_simp; done) | (go_simp; rfl)); intro gb130 hg w3 hbox hb; have n0_ := Aside0.mk (Kd.V_below (Kd.V_elderB (by (with_reducible repeat (first | apply Kd.V_alloc | apply Kd.V_drewN | apply Kd.V_drew)); exact HO0_4.out) gb130 (Nat.le_of_eq hg.symm)) hb); have n1_ := Aside0.mk (blk_below (g := gb129) (o := .cells #[.int .i64 a0_0, .int .i64 a0_1, .int .i64 a0_2, .int .i64 a0_3, .slice A0_4 l0_4.length c0_4] 41 (0, 0)) (by (with_reducible repeat (first | refine blk_drewN ?_ _ | refine blk_drew ?_ | refine blk_alloc ?_ _)); exact BK129.out) hb); have n2_ := Aside0.mk (below_step (by repeat (first | (with_reducible first | exact HB.out | apply below_alloc | apply pw_below_drewN | apply below_drew1 | refine below_set ?_ GE129.out) | exact HB.out)) hb); have n3_ := Aside0.mk (hbox); have n4_ := Aside0.mk ((by rw [hg]; exact (below_size (by repeat (first | (with_reducible first | exact HB.out | apply below_alloc | apply pw_below_drewN | apply below_drew1 | refine below_set ?_ GE129.out) | exact HB.out))) : w.heap.size ≤ gb130)); have n5_ := Aside0.mk ((by rw [hg]; exact (below_size (by repeat (first | (with_reducible first | exact HB.out | apply below_alloc | apply pw_below_drewN | apply below_drew1 | refine below_set ?_ GE129.out) | exact HB.out))) : w.heap.size ≤ gb130)); have n6_ := Aside0.mk ((by rw [hg]; exact Nat.ne_of_lt (blk_lt (g := gb129) (o := .cells #[.int .i64 a0_0, .int .i64 a0_1, .int .i64 a0_2, .int .i64 a0_3, .slice A0_4 l0_4.length c0_4] 41 (0, 0)) (by (with_reducible repeat (first | refine blk_drewN ?_ _ | refine blk_drew ?_ | refine blk_alloc ?_ _)); exact BK129.out)) : gb129 ≠ gb130)); have n7_ := Aside0.mk ((by rw [hg]; exact Nat.ne_of_gt (blk_lt (g := gb129) (o := .cells #[.int .i64 a0_0, .int .i64 a0_1, .int .i64 a0_2, .int .i64 a0_3, .slice A0_4 l0_4.length c0_4] 41 (0, 0)) (by (with_reducible repeat (first | refine blk_drewN ?_ _ | refine blk_drew ?_ | refine blk_alloc ?_ _)); exact BK129.out)) : gb130 ≠ gb129)); clear HO0_4; clear BK129; clear HB; have HO0_4 := n0_; have BK129 := n1_; have HB := n2_; have BK130 := n3_; have GW130 := n4_; have GE130 := n5_; have NB129_130 := n6_; have NB130_129 := n7_; clear n0_ n1_ n2_ n3_ n4_ n5_ n6_ n7_; clear hb hbox hg; have hnb4 := NB129_130.out; have hnc4 := NB130_129.out; have hcz5_0 : w3.cell? ⟨gb129, 0, none⟩ = some (.int .i64 a0_0) := (blk_cell BK129.out 0).trans rfl; have hcz5_1 : w3.cell? ⟨gb129, 1, none⟩ = some (.int .i64 a0_1) := (blk_cell BK129.out 1).trans rfl; have hcz5_2 : w3.cell? ⟨gb129, 2, none⟩ = some (.int .i64 a0_2) := (blk_cell BK129.out 2).trans rfl; have hcz5_3 : w3.cell? ⟨gb129, 3, none⟩ = some (.int .i64 a0_3) := (blk_cell BK129.out 3).trans rfl; have hcz5_4 : w3.cell? ⟨gb129, 4, none⟩ = some (.slice A0_4 l0_4.length c0_4) := (blk_cell BK129.out 4).trans rfl; have hfz5_0 := blk_frozen BK129.out 0; have hfz5_1 := blk_frozen BK129.out 1; have hfz5_2 := blk_frozen BK129.out 2; have hfz5_3 := blk_frozen BK129.out 3; have hfz5_4 := blk_frozen BK129.out 4) | ((with_reducible refine gate_dst (N := 3) rfl ?_); refine box_event ?hg (N := 3) ?hd (cs := #[.int .i64 0, .int .i64 0, .int .i64 0, .int .i64 0, .slice none 0 0]) (t := 41) ?hr ?_; (case hd => rfl); (case hg => rfl); (case hr => first | (go_simp; done) | (go_simp; rfl)); intro gb131 hg w6 hbox hb; have n0_ := Aside0.mk (Kd.V_below (Kd.V_elderB (by (with_reducible repeat (first | apply Kd.V_alloc | apply Kd.V_drewN | apply Kd.V_drew)); exact HO0_4.out) gb131 (Nat.le_of_eq hg.symm)) hb); have n1_ := Aside0.mk (blk_below (g := gb129) (o := .cells #[.int .i64 a0_0, .int .i64 a0_1, .int .i64 a0_2, .int .i64 a0_3, .slice A0_4 l0_4.length c0_4] 41 (0, 0)) (by (with_reducible repeat (first | refine blk_drewN ?_ _ | refine blk_drew ?_ | refine blk_alloc ?_ _)); exact BK129.out) hb); have n2_ := Aside0.mk (blk_below (g := gb130) (o := .cells #[.int .i64 0, .int .i64 0, .int .i64 0, .int .i64 0, .slice none 0 0] 41 (0, 0)) (by (with_reducible repeat (first | refine blk_drewN ?_ _ | refine blk_drew ?_ | refine blk_alloc ?_ _)); exact BK130.out) hb); have n3_ := Aside0.mk (below_step (by repeat (first | (with_reducible first | exact HB.out | apply below_alloc | apply pw_below_drewN | apply below_drew1 | refine below_set ?_ GE129.out | refine below_set ?_ GE130.out) | exact HB.out)) hb); have n4_ := Aside0.mk (hbox); have n5_ := Aside0.mk ((by rw [hg]; exact (below_size (by repeat (first | (with_reducible first | exact HB.out | apply below_alloc | apply pw_below_drewN | apply below_drew1 | refine below_set ?_ GE129.out | refine below_set ?_ GE130.out) | exact HB.out))) : w.heap.size ≤ gb131)); have n6_ := Aside0.mk ((by rw [hg]; exact (below_size (by repeat (first | (with_reducible first | exact HB.out | apply below_alloc | apply pw_below_drewN | apply below_drew1 | refine below_set ?_ GE129.out | refine below_set ?_ GE130.out) | exact HB.out))) : w.heap.size ≤ gb131)); have n7_ := Aside0.mk ((by rw [hg]; exact Nat.ne_of_lt (blk_lt (g := gb129) (o := .cells #[.int .i64 a0_0, .int .i64 a0_1, .int .i64 a0_2, .int .i64 a0_3, .slice A0_4 l0_4.length c0_4] 41 (0, 0)) (by (with_reducible repeat (first | refine blk_drewN ?_ _ | refine blk_drew ?_ | refine blk_alloc ?_ _)); exact BK129.out)) : gb129 ≠ gb131)); have n8_ := Aside0.mk ((by rw [hg]; exact Nat.ne_of_gt (blk_lt (g := gb129) (o := .cells #[.int .i64 a0_0, .int .i64 a0_1, .int .i64 a0_2, .int .i64 a0_3, .slice A0_4 l0_4.length c0_4] 41 (0, 0)) (by (with_reducible repeat (first | refine blk_drewN ?_ _ | refine blk_drew ?_ | refine blk_alloc ?_ _)); exact BK129.out)) : gb131 ≠ gb129)); have n9_ := Aside0.mk ((by rw [hg]; exact Nat.ne_of_lt (blk_lt (g := gb130) (o := .cells #[.int .i64 0, .int .i64 0, .int .i64 0, .int .i64 0, .slice none 0 0] 41 (0, 0)) (by (with_reducible repeat (first | refine blk_drewN ?_ _ | refine blk_drew ?_ | refine blk_alloc ?_ _)); exact BK130.out)) : gb130 ≠ gb131)); have n10_ := Aside0.mk ((by rw [hg]; exact Nat.ne_of_gt (blk_lt (g := gb130) (o := .cells #[.int .i64 0, .int .i64 0, .int .i64 0, .int .i64 0, .slice none 0 0] 41 (0, 0)) (by (with_reducible repeat (first | refine blk_drewN ?_ _ | refine blk_drew ?_ | refine blk_alloc ?_ _)); exact BK130.out)) : gb131 ≠ gb130)); clear HO0_4; clear BK129; clear BK130; clear HB; have HO0_4 := n0_; have BK129 := n1_; have BK130 := n2_; have HB := n3_; have BK131 := n4_; have GW131 := n5_; have GE131 := n6_; have NB129_131 := n7_; have NB131_129 := n8_; have NB130_131 := n9_; have NB131_130 := n10_; clear n0_ n1_ n2_ n3_ n4_ n5_ n6_ n7_ n8_ n9_ n10_; clear hb hbox hg; have hnb7 := NB131_129.out; have hnc7 := NB129_131.out; have hnb8 := NB131_130.out; have hnc8 := NB130_131.out; have hcz9_0 : w6.cell? ⟨gb131, 0, none⟩ = some (.int .i64 0) := (blk_cell BK131.out 0).trans rfl; have hcz9_1 : w6.cell? ⟨gb131, 1, none⟩ = some (.int .i64 0) := (blk_cell BK131.out 1).trans rfl; have hcz9_2 : w6.cell? ⟨gb131, 2, none⟩ = some (.int .i64 0) := (blk_cell BK131.out 2).trans rfl; have hcz9_3 : w6.cell? ⟨gb131, 3, none⟩ = some (.int .i64 0) := (blk_cell BK131.out 3).trans rfl; have hcz9_4 : w6.cell? ⟨gb131, 4, none⟩ = some (.slice none 0 0) := (blk_cell BK131.out 4).trans rfl; have hfz9_0 := blk_frozen BK131.out 0; have hfz9_1 := blk_frozen BK131.out 1; have hfz9_2 := blk_frozen BK131.out 2; have hfz9_3 := blk_frozen BK131.out 3; have hfz9_4 := blk_frozen BK131.out 4; have hcz10_0 : w6.cell? ⟨gb129, 0, none⟩ = some (.int .i64 a0_0) := (blk_cell BK129.out 0).trans rfl; have hcz10_1 : w6.cell? ⟨gb129, 1, none⟩ = some (.int .i64 a0_1) := (blk_cell BK129.out 1).trans rfl; have hcz10_2 : w6.cell? ⟨gb129, 2, none⟩ = some (.int .i64 a0_2) := (blk_cell BK129.out 2).trans rfl; have hcz10_3 : w6.cell? ⟨gb129, 3, none⟩ = some (.int .i64 a0_3) := (blk_cell BK129.out 3).trans rfl; have hcz10_4 : w6.cell? ⟨gb129, 4, none⟩ = some (.slice A0_4 l0_4.length c0_4) := (blk_cell BK129.out 4).trans rfl; have hfz10_0 := blk_frozen BK129.out 0; have hfz10_1 := blk_frozen BK129.out 1; have hfz10_2 := blk_frozen BK129.out 2; have hfz10_3 := blk_frozen BK129.out 3; have hfz10_4 := blk_frozen BK129.out 4))
 go_loopg [4] k (fun kq v4 w' => ∃ (x4_1 : List ByteArray) (x132004_1 : List ByteArray) (u132004 : Value), Aside0 (hunk_Turn.l0 kq x4_1 a0_2 a0_3 a0_0 a0_1 x132004_1 = some (r1, r2, r3, r4, r5)) ∧ Aside0 (kq ≤ k) ∧ Aside0 (Kd.V Kd.string 9 w' w.heap.size (fun k_ => (P0_4_ k_ ∨ w.heap.size ≤ k_) ∧ some k_ ≠ (u132004 : Value).ownBlock ∧ k_ ≠ gb129 ∧ k_ ≠ gb130 ∧ k_ ≠ gb131) v4 x4_1) ∧ Aside0 (Kd.V Kd.string 9 w' w.heap.size (fun k_ => (P0_4_ k_ ∨ w.heap.size ≤ k_) ∧ some k_ ≠ (u132004 : Value).ownBlock ∧ k_ ≠ gb129 ∧ k_ ≠ gb130 ∧ k_ ≠ gb131) (.slice A0_4 l0_4.length c0_4) l0_4) ∧ Aside0 (Kd.R Kd.string 9 w' w.heap.size (fun k_ => (w.heap.size ≤ k_)) u132004 x132004_1) ∧ Aside0 (w'.heap[gb129]? = some (.cells #[.int .i64 a0_0, .int .i64 a0_1, .int .i64 a0_2, .int .i64 a0_3, (.slice A0_4 l0_4.length c0_4)] 41 (0, 0))) ∧ Aside0 (w'.heap[gb130]? = some (.cells #[.int .i64 0, .int .i64 0, .int .i64 0, .int .i64 0, (.slice none 0 0)] 41 (0, 0))) ∧ Aside0 (w'.heap[gb131]? = some (.cells #[.int .i64 a0_2, .int .i64 a0_3, .int .i64 a0_0, .int .i64 a0_1, u132004] 41 (0, 0))) ∧ Aside0 (Below w.heap.size w w'))
 case atStart => exact ⟨(l0_4), (([] : List ByteArray)), (.slice none 0 0), H', ⟨Nat.le_refl _⟩, ⟨by (with_reducible repeat (first | apply Kd.V_alloc | apply Kd.V_drewN | apply Kd.V_drew)); exact Kd.V_mono (Kd.V_far (p := ⟨gb131, 4, none⟩) (Kd.V_far (p := ⟨gb131, 3, none⟩) (Kd.V_far (p := ⟨gb131, 2, none⟩) (Kd.V_far (p := ⟨gb131, 1, none⟩) (Kd.V_far (p := ⟨gb131, 0, none⟩) (Kd.V_mono HO0_4.out (fun k_ hk => (⟨hk, hk.2⟩ : _ ∧ k_ ≠ gb131))) (fun _ hk => hk.2) (.int .i64 a0_2)) (fun _ hk => hk.2) (.int .i64 a0_3)) (fun _ hk => hk.2) (.int .i64 a0_0)) (fun _ hk => hk.2) (.int .i64 a0_1)) (fun _ hk => hk.2) (.slice none 0 0)) (fun _ hk => ⟨hk.1.1.1.1, ⟨(by simp [Value.ownBlock]), ⟨hk.1.1.1.2, ⟨hk.1.1.2, hk.1.2⟩⟩⟩⟩)⟩, ⟨by (with_reducible repeat (first | apply Kd.V_alloc | apply Kd.V_drewN | apply Kd.V_drew)); exact Kd.V_mono (Kd.V_far (p := ⟨gb131, 4, none⟩) (Kd.V_far (p := ⟨gb131, 3, none⟩) (Kd.V_far (p := ⟨gb131, 2, none⟩) (Kd.V_far (p := ⟨gb131, 1, none⟩) (Kd.V_far (p := ⟨gb131, 0, none⟩) (Kd.V_mono HO0_4.out (fun k_ hk => (⟨hk, hk.2⟩ : _ ∧ k_ ≠ gb131))) (fun _ hk => hk.2) (.int .i64 a0_2)) (fun _ hk => hk.2) (.int .i64 a0_3)) (fun _ hk => hk.2) (.int .i64 a0_0)) (fun _ hk => hk.2) (.int .i64 a0_1)) (fun _ hk => hk.2) (.slice none 0 0)) (fun _ hk => ⟨hk.1.1.1.1, ⟨(by simp [Value.ownBlock]), ⟨hk.1.1.1.2, ⟨hk.1.1.2, hk.1.2⟩⟩⟩⟩)⟩, ⟨by first | exact Kd.R_nil _ _ _ _ _ | exact Kd.N_nil _ _ _ _ _ | exact Kd.V_nil _ _ _ _ _ | exact Kd.Q_nil _ _ _ _ _ | exact Kd.S_nil _ _ _ _ _⟩, ⟨by (with_reducible repeat (first | refine blk_drewN ?_ _ | refine blk_drew ?_ | refine blk_alloc ?_ _)); refine blk_far ?_ NB129_131.out _; (with_reducible repeat (first | refine blk_drewN ?_ _ | refine blk_drew ?_ | refine blk_alloc ?_ _)); refine blk_far ?_ NB129_131.out _; (with_reducible repeat (first | refine blk_drewN ?_ _ | refine blk_drew ?_ | refine blk_alloc ?_ _)); refine blk_far ?_ NB129_131.out _; (with_reducible repeat (first | refine blk_drewN ?_ _ | refine blk_drew ?_ | refine blk_alloc ?_ _)); refine blk_far ?_ NB129_131.out _; (with_reducible repeat (first | refine blk_drewN ?_ _ | refine blk_drew ?_ | refine blk_alloc ?_ _)); refine blk_far ?_ NB129_131.out _; (with_reducible repeat (first | refine blk_drewN ?_ _ | refine blk_drew ?_ | refine blk_alloc ?_ _)); exact BK129.out⟩, ⟨by (with_reducible repeat (first | refine blk_drewN ?_ _ | refine blk_drew ?_ | refine blk_alloc ?_ _)); refine blk_far ?_ NB130_131.out _; (with_reducible repeat (first | refine blk_drewN ?_ _ | refine blk_drew ?_ | refine blk_alloc ?_ _)); refine blk_far ?_ NB130_131.out _; (with_reducible repeat (first | refine blk_drewN ?_ _ | refine blk_drew ?_ | refine blk_alloc ?_ _)); refine blk_far ?_ NB130_131.out _; (with_reducible repeat (first | refine blk_drewN ?_ _ | refine blk_drew ?_ | refine blk_alloc ?_ _)); refine blk_far ?_ NB130_131.out _; (with_reducible repeat (first | refine blk_drewN ?_ _ | refine blk_drew ?_ | refine blk_alloc ?_ _)); refine blk_far ?_ NB130_131.out _; (with_reducible repeat (first | refine blk_drewN ?_ _ | refine blk_drew ?_ | refine blk_alloc ?_ _)); exact BK130.out⟩, ⟨by (with_reducible repeat (first | refine blk_drewN ?_ _ | refine blk_drew ?_ | refine blk_alloc ?_ _)); refine blk_put (cs := #[.int .i64 a0_2, .int .i64 a0_3, .int .i64 a0_0, .int .i64 a0_1, .slice none 0 0]) ?_ 4 _ rfl; (with_reducible repeat (first | refine blk_drewN ?_ _ | refine blk_drew ?_ | refine blk_alloc ?_ _)); refine blk_put (cs := #[.int .i64 a0_2, .int .i64 a0_3, .int .i64 a0_0, .int .i64 0, .slice none 0 0]) ?_ 3 _ rfl; (with_reducible repeat (first | refine blk_drewN ?_ _ | refine blk_drew ?_ | refine blk_alloc ?_ _)); refine blk_put (cs := #[.int .i64 a0_2, .int .i64 a0_3, .int .i64 0, .int .i64 0, .slice none 0 0]) ?_ 2 _ rfl; (with_reducible repeat (first | refine blk_drewN ?_ _ | refine blk_drew ?_ | refine blk_alloc ?_ _)); refine blk_put (cs := #[.int .i64 a0_2, .int .i64 0, .int .i64 0, .int .i64 0, .slice none 0 0]) ?_ 1 _ rfl; (with_reducible repeat (first | refine blk_drewN ?_ _ | refine blk_drew ?_ | refine blk_alloc ?_ _)); refine blk_put (cs := #[.int .i64 0, .int .i64 0, .int .i64 0, .int .i64 0, .slice none 0 0]) ?_ 0 _ rfl; (with_reducible repeat (first | refine blk_drewN ?_ _ | refine blk_drew ?_ | refine blk_alloc ?_ _)); exact BK131.out⟩, ⟨by repeat (first | (with_reducible first | exact HB.out | apply below_alloc | apply pw_below_drewN | apply below_drew1 | refine below_set ?_ GE129.out | refine below_set ?_ GE130.out | refine below_set ?_ GE131.out) | exact HB.out)⟩⟩
 case round =>
  clear H'
  try clear c2
  try clear p2
  try clear c4
  try clear c7
  try clear c8
  try clear hcz10_0
  try clear hcz10_1
  try clear hcz10_2
  try clear hcz10_3
  try clear hcz10_4
  try clear hcz5_0
  try clear hcz5_1
  try clear hcz5_2
  try clear hcz5_3
  try clear hcz5_4
  try clear hcz9_0
  try clear hcz9_1
  try clear hcz9_2
  try clear hcz9_3
  try clear hcz9_4
  try clear hfz10_0
  try clear hfz10_1
  try clear hfz10_2
  try clear hfz10_3
  try clear hfz10_4
  try clear hfz5_0
  try clear hfz5_1
  try clear hfz5_2
  try clear hfz5_3
  try clear hfz5_4
  try clear hfz9_0
  try clear hfz9_1
  try clear hfz9_2
  try clear hfz9_3
  try clear hfz9_4
  obtain ⟨x4_1, x132004_1, u132004, HA, HK1, HO_4, HO_130004, HO_132004, BK129, BK130, BK131, HB⟩ := hrel
  cases gk with
  | zero => exact absurd HA.out (by simp [hunk_Turn.l0])
  | succ k1 =>
   have H := HA.out
   clear HA
   simp only [hunk_Turn.l0] at H
   by_cases c11 : (x4_1.length : Int) > 0
   ·rw [if_pos c11] at H
    have c11b0 : decide (0 < (x4_1.length : Int)) = true := decide_eq_true c11
    have c11b1 : decide (0 < x4_1.length) = true := decide_eq_true (by omega)
    clear c11
    replace H := Option.bind_eq_some_iff.mp H
    obtain ⟨t132, A120, H⟩ := H
    replace H : (if 0 ≤ t132 then (if t132 ≤ (x4_1.length : Int) then ((hunk_run.f k1 (x4_1.drop (t132 : Int).toNat) 45).bind fun t138 => (if 0 ≤ (wrap64 (t132 + t138)) then (if (wrap64 (t132 + t138)) ≤ (x4_1.length : Int) then ((hunk_run.f k1 (x4_1.drop ((wrap64 (t132 + t138)) : Int).toNat) 43).bind fun t144 => (if (wrap64 (t132 + t138)) ≤ (wrap64 ((wrap64 (t132 + t138)) + t144)) then (if (wrap64 ((wrap64 (t132 + t138)) + t144)) ≤ (x4_1.length : Int) then ((hunk_bare.f k1 ((x4_1.take ((wrap64 ((wrap64 (t132 + t138)) + t144)) : Int).toNat).drop ((wrap64 (t132 + t138)) : Int).toNat)).bind fun t155 => ((hunk_signed.f k1 45 t155).bind fun t158 => (if t132 ≤ (wrap64 (t132 + t138)) then ((hunk_bare.f k1 ((x4_1.take ((wrap64 (t132 + t138)) : Int).toNat).drop (t132 : Int).toNat)).bind fun t166 => ((hunk_signed.f k1 43 t166).bind fun t169 => ((slices_Concat_string_string.f (([x132004_1, (x4_1.take (t132 : Int).toNat), t158, t169] : List (List ByteArray)))).bind fun t175 => (if 0 ≤ (wrap64 ((wrap64 (t132 + t138)) + t144)) then (hunk_Turn.l0 k1 (x4_1.drop ((wrap64 ((wrap64 (t132 + t138)) + t144)) : Int).toNat) a0_2 a0_3 a0_0 a0_1 t175) else (none))))) else (none)))) else (none)) else (none))) else (none)) else (none))) else (none)) else (none)) = some (r1, r2, r3, r4, r5) := H
    have A12 := Aside0.mk A120
    clear A120
    by_cases c13 : 0 ≤ t132
    ·rw [if_pos c13] at H
     have c13b0 := eq_true c13
     have c13b1 : decide (0 ≤ t132) = true := decide_eq_true c13
     clear c13
     by_cases c14 : t132 ≤ (x4_1.length : Int)
     ·rw [if_pos c14] at H
      have c14b0 := eq_true c14
      have c14b1 : decide (t132 ≤ (x4_1.length : Int)) = true := decide_eq_true c14
      clear c14
      obtain ⟨y133, hy133⟩ : ∃ y_ : List ByteArray, y_ = (x4_1.drop (t132 : Int).toNat) := ⟨_, rfl⟩
      replace H : ((hunk_run.f k1 y133 45).bind fun t138 => (if 0 ≤ (wrap64 (t132 + t138)) then (if (wrap64 (t132 + t138)) ≤ (x4_1.length : Int) then ((hunk_run.f k1 (x4_1.drop ((wrap64 (t132 + t138)) : Int).toNat) 43).bind fun t144 => (if (wrap64 (t132 + t138)) ≤ (wrap64 ((wrap64 (t132 + t138)) + t144)) then (if (wrap64 ((wrap64 (t132 + t138)) + t144)) ≤ (x4_1.length : Int) then ((hunk_bare.f k1 ((x4_1.take ((wrap64 ((wrap64 (t132 + t138)) + t144)) : Int).toNat).drop ((wrap64 (t132 + t138)) : Int).toNat)).bind fun t155 => ((hunk_signed.f k1 45 t155).bind fun t158 => (if t132 ≤ (wrap64 (t132 + t138)) then ((hunk_bare.f k1 ((x4_1.take ((wrap64 (t132 + t138)) : Int).toNat).drop (t132 : Int).toNat)).bind fun t166 => ((hunk_signed.f k1 43 t166).bind fun t169 => ((slices_Concat_string_string.f (([x132004_1, (x4_1.take (t132 : Int).toNat), t158, t169] : List (List ByteArray)))).bind fun t175 => (if 0 ≤ (wrap64 ((wrap64 (t132 + t138)) + t144)) then (hunk_Turn.l0 k1 (x4_1.drop ((wrap64 ((wrap64 (t132 + t138)) + t144)) : Int).toNat) a0_2 a0_3 a0_0 a0_1 t175) else (none))))) else (none)))) else (none)) else (none))) else (none)) else (none))) = some (r1, r2, r3, r4, r5) := by first | (rw [hy133]; with_reducible exact H) | (have H2_ := (Option.bind_some _ _).symm.trans H; rw [hy133]; with_reducible exact H2_) | (have H2_ := (Option.bind_some _ _).symm.trans H; with_reducible exact H2_) | with_reducible exact H | (rw [hy133]; exact H) | exact H
      have Ny133 := Aside0.mk hy133
      clear hy133
      replace H := Option.bind_eq_some_iff.mp H
      obtain ⟨t138, A150, H⟩ := H
      replace H : (if 0 ≤ (wrap64 (t132 + t138)) then (if (wrap64 (t132 + t138)) ≤ (x4_1.length : Int) then ((hunk_run.f k1 (x4_1.drop ((wrap64 (t132 + t138)) : Int).toNat) 43).bind fun t144 => (if (wrap64 (t132 + t138)) ≤ (wrap64 ((wrap64 (t132 + t138)) + t144)) then (if (wrap64 ((wrap64 (t132 + t138)) + t144)) ≤ (x4_1.length : Int) then ((hunk_bare.f k1 ((x4_1.take ((wrap64 ((wrap64 (t132 + t138)) + t144)) : Int).toNat).drop ((wrap64 (t132 + t138)) : Int).toNat)).bind fun t155 => ((hunk_signed.f k1 45 t155).bind fun t158 => (if t132 ≤ (wrap64 (t132 + t138)) then ((hunk_bare.f k1 ((x4_1.take ((wrap64 (t132 + t138)) : Int).toNat).drop (t132 : Int).toNat)).bind fun t166 => ((hunk_signed.f k1 43 t166).bind fun t169 => ((slices_Concat_string_string.f (([x132004_1, (x4_1.take (t132 : Int).toNat), t158, t169] : List (List ByteArray)))).bind fun t175 => (if 0 ≤ (wrap64 ((wrap64 (t132 + t138)) + t144)) then (hunk_Turn.l0 k1 (x4_1.drop ((wrap64 ((wrap64 (t132 + t138)) + t144)) : Int).toNat) a0_2 a0_3 a0_0 a0_1 t175) else (none))))) else (none)))) else (none)) else (none))) else (none)) else (none)) = some (r1, r2, r3, r4, r5) := H
      have A15 := Aside0.mk A150
      clear A150
      obtain ⟨ji16, hji16⟩ : ∃ j_ : Int, (wrap64 (t132 + t138)) = j_ := ⟨_, rfl⟩
      replace H : (if 0 ≤ (ji16) then (if (ji16) ≤ (x4_1.length : Int) then ((hunk_run.f k1 (x4_1.drop ((ji16) : Int).toNat) 43).bind fun t144 => (if (ji16) ≤ (wrap64 ((ji16) + t144)) then (if (wrap64 ((ji16) + t144)) ≤ (x4_1.length : Int) then ((hunk_bare.f k1 ((x4_1.take ((wrap64 ((ji16) + t144)) : Int).toNat).drop ((ji16) : Int).toNat)).bind fun t155 => ((hunk_signed.f k1 45 t155).bind fun t158 => (if t132 ≤ (ji16) then ((hunk_bare.f k1 ((x4_1.take ((ji16) : Int).toNat).drop (t132 : Int).toNat)).bind fun t166 => ((hunk_signed.f k1 43 t166).bind fun t169 => ((slices_Concat_string_string.f (([x132004_1, (x4_1.take (t132 : Int).toNat), t158, t169] : List (List ByteArray)))).bind fun t175 => (if 0 ≤ (wrap64 ((ji16) + t144)) then (hunk_Turn.l0 k1 (x4_1.drop ((wrap64 ((ji16) + t144)) : Int).toNat) a0_2 a0_3 a0_0 a0_1 t175) else (none))))) else (none)))) else (none)) else (none))) else (none)) else (none)) = some (r1, r2, r3, r4, r5) := by first | (rw [hji16] at H; exact H) | (simp only [hji16] at H ⊢; exact H)
      (try rw [hji16] at A12)
      (try rw [hji16] at A15)
      have hji16w : (IntKind.i64.wrap (t132 + t138)) = ji16 := (i64_w _).trans hji16
      by_cases c17 : 0 ≤ (ji16)
      ·rw [if_pos c17] at H
       have c17b0 := eq_true c17
       have c17b1 : decide (0 ≤ (ji16)) = true := decide_eq_true c17
       clear c17
       by_cases c18 : (ji16) ≤ (x4_1.length : Int)
       ·rw [if_pos c18] at H
        have c18b0 := eq_true c18
        have c18b1 : decide ((ji16) ≤ (x4_1.length : Int)) = true := decide_eq_true c18
        clear c18
        obtain ⟨y139, hy139⟩ : ∃ y_ : List ByteArray, y_ = (x4_1.drop ((ji16) : Int).toNat) := ⟨_, rfl⟩
        replace H : ((hunk_run.f k1 y139 43).bind fun t144 => (if (ji16) ≤ (wrap64 ((ji16) + t144)) then (if (wrap64 ((ji16) + t144)) ≤ (x4_1.length : Int) then ((hunk_bare.f k1 ((x4_1.take ((wrap64 ((ji16) + t144)) : Int).toNat).drop ((ji16) : Int).toNat)).bind fun t155 => ((hunk_signed.f k1 45 t155).bind fun t158 => (if t132 ≤ (ji16) then ((hunk_bare.f k1 ((x4_1.take ((ji16) : Int).toNat).drop (t132 : Int).toNat)).bind fun t166 => ((hunk_signed.f k1 43 t166).bind fun t169 => ((slices_Concat_string_string.f (([x132004_1, (x4_1.take (t132 : Int).toNat), t158, t169] : List (List ByteArray)))).bind fun t175 => (if 0 ≤ (wrap64 ((ji16) + t144)) then (hunk_Turn.l0 k1 (x4_1.drop ((wrap64 ((ji16) + t144)) : Int).toNat) a0_2 a0_3 a0_0 a0_1 t175) else (none))))) else (none)))) else (none)) else (none))) = some (r1, r2, r3, r4, r5) := by first | (rw [hy139]; with_reducible exact H) | (have H2_ := (Option.bind_some _ _).symm.trans H; rw [hy139]; with_reducible exact H2_) | (have H2_ := (Option.bind_some _ _).symm.trans H; with_reducible exact H2_) | with_reducible exact H | (rw [hy139]; exact H) | exact H
        have Ny139 := Aside0.mk hy139
        clear hy139
        replace H := Option.bind_eq_some_iff.mp H
        obtain ⟨t144, A190, H⟩ := H
        replace H : (if (ji16) ≤ (wrap64 ((ji16) + t144)) then (if (wrap64 ((ji16) + t144)) ≤ (x4_1.length : Int) then ((hunk_bare.f k1 ((x4_1.take ((wrap64 ((ji16) + t144)) : Int).toNat).drop ((ji16) : Int).toNat)).bind fun t155 => ((hunk_signed.f k1 45 t155).bind fun t158 => (if t132 ≤ (ji16) then ((hunk_bare.f k1 ((x4_1.take ((ji16) : Int).toNat).drop (t132 : Int).toNat)).bind fun t166 => ((hunk_signed.f k1 43 t166).bind fun t169 => ((slices_Concat_string_string.f (([x132004_1, (x4_1.take (t132 : Int).toNat), t158, t169] : List (List ByteArray)))).bind fun t175 => (if 0 ≤ (wrap64 ((ji16) + t144)) then (hunk_Turn.l0 k1 (x4_1.drop ((wrap64 ((ji16) + t144)) : Int).toNat) a0_2 a0_3 a0_0 a0_1 t175) else (none))))) else (none)))) else (none)) else (none)) = some (r1, r2, r3, r4, r5) := H
        have A19 := Aside0.mk A190
        clear A190
        have c20b0 := eq_true (of_decide_eq_true (by first | (with_reducible assumption) | assumption) : 0 ≤ t132)
        have c21b0 := eq_true (of_decide_eq_true (by first | (with_reducible assumption) | assumption) : t132 ≤ (x4_1.length : Int))
        obtain ⟨y145, hy145⟩ : ∃ y_ : List ByteArray, y_ = (x4_1.take (t132 : Int).toNat) := ⟨_, rfl⟩
        replace H : (if (ji16) ≤ (wrap64 ((ji16) + t144)) then (if (wrap64 ((ji16) + t144)) ≤ (x4_1.length : Int) then ((hunk_bare.f k1 ((x4_1.take ((wrap64 ((ji16) + t144)) : Int).toNat).drop ((ji16) : Int).toNat)).bind fun t155 => ((hunk_signed.f k1 45 t155).bind fun t158 => (if t132 ≤ (ji16) then ((hunk_bare.f k1 ((x4_1.take ((ji16) : Int).toNat).drop (t132 : Int).toNat)).bind fun t166 => ((hunk_signed.f k1 43 t166).bind fun t169 => ((slices_Concat_string_string.f (([x132004_1, y145, t158, t169] : List (List ByteArray)))).bind fun t175 => (if 0 ≤ (wrap64 ((ji16) + t144)) then (hunk_Turn.l0 k1 (x4_1.drop ((wrap64 ((ji16) + t144)) : Int).toNat) a0_2 a0_3 a0_0 a0_1 t175) else (none))))) else (none)))) else (none)) else (none)) = some (r1, r2, r3, r4, r5) := by first | (rw [hy145]; with_reducible exact H) | (have H2_ := (Option.bind_some _ _).symm.trans H; rw [hy145]; with_reducible exact H2_) | (have H2_ := (Option.bind_some _ _).symm.trans H; with_reducible exact H2_) | with_reducible exact H | (rw [hy145]; exact H) | exact H
        have Ny145 := Aside0.mk hy145
        clear hy145
        have c22b0 := eq_true (of_decide_eq_true (by first | (with_reducible assumption) | assumption) : 0 ≤ (ji16))
        by_cases c23 : (ji16) ≤ (wrap64 ((ji16) + t144))
        ·rw [if_pos c23] at H
         have c23b0 := eq_true c23
         have c23b1 : decide ((ji16) ≤ (wrap64 ((ji16) + t144))) = true := decide_eq_true c23
         by_cases c24 : (wrap64 ((ji16) + t144)) ≤ (x4_1.length : Int)
         ·rw [if_pos c24] at H
          have c24b0 := eq_true c24
          have c24b1 : decide ((wrap64 ((ji16) + t144)) ≤ (x4_1.length : Int)) = true := decide_eq_true c24
          obtain ⟨y150, hy150⟩ : ∃ y_ : List ByteArray, y_ = ((x4_1.take ((wrap64 ((ji16) + t144)) : Int).toNat).drop ((ji16) : Int).toNat) := ⟨_, rfl⟩
          replace H : ((hunk_bare.f k1 y150).bind fun t155 => ((hunk_signed.f k1 45 t155).bind fun t158 => (if t132 ≤ (ji16) then ((hunk_bare.f k1 ((x4_1.take ((ji16) : Int).toNat).drop (t132 : Int).toNat)).bind fun t166 => ((hunk_signed.f k1 43 t166).bind fun t169 => ((slices_Concat_string_string.f (([x132004_1, y145, t158, t169] : List (List ByteArray)))).bind fun t175 => (if 0 ≤ (wrap64 ((ji16) + t144)) then (hunk_Turn.l0 k1 (x4_1.drop ((wrap64 ((ji16) + t144)) : Int).toNat) a0_2 a0_3 a0_0 a0_1 t175) else (none))))) else (none)))) = some (r1, r2, r3, r4, r5) := by first | (rw [hy150]; with_reducible exact H) | (have H2_ := (Option.bind_some _ _).symm.trans H; rw [hy150]; with_reducible exact H2_) | (have H2_ := (Option.bind_some _ _).symm.trans H; with_reducible exact H2_) | with_reducible exact H | (rw [hy150]; exact H) | exact H
          have Ny150 := Aside0.mk hy150
          clear hy150
          replace H := Option.bind_eq_some_iff.mp H
          obtain ⟨t155, A250, H⟩ := H
          replace H : ((hunk_signed.f k1 45 t155).bind fun t158 => (if t132 ≤ (ji16) then ((hunk_bare.f k1 ((x4_1.take ((ji16) : Int).toNat).drop (t132 : Int).toNat)).bind fun t166 => ((hunk_signed.f k1 43 t166).bind fun t169 => ((slices_Concat_string_string.f (([x132004_1, y145, t158, t169] : List (List ByteArray)))).bind fun t175 => (if 0 ≤ (wrap64 ((ji16) + t144)) then (hunk_Turn.l0 k1 (x4_1.drop ((wrap64 ((ji16) + t144)) : Int).toNat) a0_2 a0_3 a0_0 a0_1 t175) else (none))))) else (none))) = some (r1, r2, r3, r4, r5) := H
          have A25 := Aside0.mk A250
          clear A250
          replace H := Option.bind_eq_some_iff.mp H
          obtain ⟨t158, A260, H⟩ := H
          replace H : (if t132 ≤ (ji16) then ((hunk_bare.f k1 ((x4_1.take ((ji16) : Int).toNat).drop (t132 : Int).toNat)).bind fun t166 => ((hunk_signed.f k1 43 t166).bind fun t169 => ((slices_Concat_string_string.f (([x132004_1, y145, t158, t169] : List (List ByteArray)))).bind fun t175 => (if 0 ≤ (wrap64 ((ji16) + t144)) then (hunk_Turn.l0 k1 (x4_1.drop ((wrap64 ((ji16) + t144)) : Int).toNat) a0_2 a0_3 a0_0 a0_1 t175) else (none))))) else (none)) = some (r1, r2, r3, r4, r5) := H
          have A26 := Aside0.mk A260
          clear A260
          have c27b0 := eq_true (of_decide_eq_true (by first | (with_reducible assumption) | assumption) : 0 ≤ t132)
          by_cases c28 : t132 ≤ (ji16)
          ·rw [if_pos c28] at H
           have c28b0 := eq_true c28
           have c28b1 : decide (t132 ≤ (ji16)) = true := decide_eq_true c28
           clear c28
           have c29b0 := eq_true (of_decide_eq_true (by first | (with_reducible assumption) | assumption) : (ji16) ≤ (x4_1.length : Int))
           obtain ⟨y161, hy161⟩ : ∃ y_ : List ByteArray, y_ = ((x4_1.take ((ji16) : Int).toNat).drop (t132 : Int).toNat) := ⟨_, rfl⟩
           replace H : ((hunk_bare.f k1 y161).bind fun t166 => ((hunk_signed.f k1 43 t166).bind fun t169 => ((slices_Concat_string_string.f (([x132004_1, y145, t158, t169] : List (List ByteArray)))).bind fun t175 => (if 0 ≤ (wrap64 ((ji16) + t144)) then (hunk_Turn.l0 k1 (x4_1.drop ((wrap64 ((ji16) + t144)) : Int).toNat) a0_2 a0_3 a0_0 a0_1 t175) else (none))))) = some (r1, r2, r3, r4, r5) := by first | (rw [hy161]; with_reducible exact H) | (have H2_ := (Option.bind_some _ _).symm.trans H; rw [hy161]; with_reducible exact H2_) | (have H2_ := (Option.bind_some _ _).symm.trans H; with_reducible exact H2_) | with_reducible exact H | (rw [hy161]; exact H) | exact H
           have Ny161 := Aside0.mk hy161
           clear hy161
           replace H := Option.bind_eq_some_iff.mp H
           obtain ⟨t166, A300, H⟩ := H
           replace H : ((hunk_signed.f k1 43 t166).bind fun t169 => ((slices_Concat_string_string.f (([x132004_1, y145, t158, t169] : List (List ByteArray)))).bind fun t175 => (if 0 ≤ (wrap64 ((ji16) + t144)) then (hunk_Turn.l0 k1 (x4_1.drop ((wrap64 ((ji16) + t144)) : Int).toNat) a0_2 a0_3 a0_0 a0_1 t175) else (none)))) = some (r1, r2, r3, r4, r5) := H
           have A30 := Aside0.mk A300
           clear A300
           replace H := Option.bind_eq_some_iff.mp H
           obtain ⟨t169, A310, H⟩ := H
           replace H : ((slices_Concat_string_string.f (([x132004_1, y145, t158, t169] : List (List ByteArray)))).bind fun t175 => (if 0 ≤ (wrap64 ((ji16) + t144)) then (hunk_Turn.l0 k1 (x4_1.drop ((wrap64 ((ji16) + t144)) : Int).toNat) a0_2 a0_3 a0_0 a0_1 t175) else (none))) = some (r1, r2, r3, r4, r5) := H
           have A31 := Aside0.mk A310
           clear A310
           obtain ⟨y172, hy172⟩ : ∃ y_ : List (List ByteArray), y_ = (([x132004_1, y145, t158, t169] : List (List ByteArray))) := ⟨_, rfl⟩
           replace H : ((slices_Concat_string_string.f y172).bind fun t175 => (if 0 ≤ (wrap64 ((ji16) + t144)) then (hunk_Turn.l0 k1 (x4_1.drop ((wrap64 ((ji16) + t144)) : Int).toNat) a0_2 a0_3 a0_0 a0_1 t175) else (none))) = some (r1, r2, r3, r4, r5) := by first | (rw [hy172]; with_reducible exact H) | (have H2_ := (Option.bind_some _ _).symm.trans H; rw [hy172]; with_reducible exact H2_) | (have H2_ := (Option.bind_some _ _).symm.trans H; with_reducible exact H2_) | with_reducible exact H | (rw [hy172]; exact H) | exact H
           have Ny172 := Aside0.mk hy172
           clear hy172
           replace H := Option.bind_eq_some_iff.mp H
           obtain ⟨t175, A320, H⟩ := H
           replace H : (if 0 ≤ (wrap64 ((ji16) + t144)) then (hunk_Turn.l0 k1 (x4_1.drop ((wrap64 ((ji16) + t144)) : Int).toNat) a0_2 a0_3 a0_0 a0_1 t175) else (none)) = some (r1, r2, r3, r4, r5) := H
           have A32 := Aside0.mk A320
           clear A320
           obtain ⟨ji33, hji33⟩ : ∃ j_ : Int, (wrap64 ((ji16) + t144)) = j_ := ⟨_, rfl⟩
           replace H : (if 0 ≤ (ji33) then (hunk_Turn.l0 k1 (x4_1.drop ((ji33) : Int).toNat) a0_2 a0_3 a0_0 a0_1 t175) else (none)) = some (r1, r2, r3, r4, r5) := by first | (rw [hji33] at H; exact H) | (simp only [hji33] at H ⊢; exact H)
           (try rw [hji33] at c23b0)
           (try rw [hji33] at c23b1)
           (try rw [hji33] at c23)
           (try rw [hji33] at c24b0)
           (try rw [hji33] at c24b1)
           (try rw [hji33] at c24)
           (try rw [hji33] at A12)
           (try rw [hji33] at A15)
           (try rw [hji33] at A19)
           (try rw [hji33] at Ny150)
           (try rw [hji33] at A25)
           (try rw [hji33] at A26)
           (try rw [hji33] at A30)
           (try rw [hji33] at A31)
           (try rw [hji33] at A32)
           have hji33w : (IntKind.i64.wrap ((ji16) + t144)) = ji33 := (i64_w _).trans hji33
           by_cases c34 : 0 ≤ (ji33)
           ·rw [if_pos c34] at H
            have c34b0 := eq_true c34
            have c34b1 : decide (0 ≤ (ji33)) = true := decide_eq_true c34
            clear c34
            have c35b0 := eq_true (of_decide_eq_true (by first | (with_reducible assumption) | assumption) : (ji33) ≤ (x4_1.length : Int))
            obtain ⟨y178, hy178⟩ : ∃ y_ : List ByteArray, y_ = (x4_1.drop ((ji33) : Int).toNat) := ⟨_, rfl⟩
            replace H : (hunk_Turn.l0 k1 y178 a0_2 a0_3 a0_0 a0_1 t175) = some (r1, r2, r3, r4, r5) := by first | (rw [hy178]; with_reducible exact H) | (have H2_ := (Option.bind_some _ _).symm.trans H; rw [hy178]; with_reducible exact H2_) | (have H2_ := (Option.bind_some _ _).symm.trans H; with_reducible exact H2_) | with_reducible exact H | (rw [hy178]; exact H) | exact H
            have Ny178 := Aside0.mk hy178
            clear hy178
            have H' := Aside0.mk H
            clear H
            obtain ⟨Ao36, co36, eo36⟩ := Kd.V_slice HO_4.out
            subst eo36
            try go_wp2_with (first | ((with_reducible refine gate_callee (f := 38) rfl ?_); refine goesL_ (some 23) rfl rfl Try.func38 (by kernel_rfl) rfl #[.slice Ao36 x4_1.length co36, .int .u8 32] rfl (by (try simp only [List.map_toArray, List.map_cons, List.map_nil]); first | done | rfl | (simp only [List.length_drop, List.length_take]; rfl)) ?_; (with_reducible refine (hunk_run.calls k1 _ _ x4_1 32 t132 _ ?side1 ?side2 A12.out).mono ?_); (case side1 => repeat (first | exact (Kd.V_reads' HO_4.out).2.2 | (with_reducible refine Kd.C_alloc ?_ _) | (with_reducible refine Kd.C_drewN ?_ _) | (with_reducible refine Kd.C_drew ?_))); (case side2 => exact (Kd.V_reads' HO_4.out).2.1); rintro e w' ⟨rfl, ⟨nd, rfl⟩⟩; refine ⟨_, rfl, ?_⟩; (try (rw [drewN_self wr]; generalize hq_ : World.drewN wr _ = wr; have n0_ : Aside0 (Kd.V Kd.string 9 wr w.heap.size (fun k_ => (P0_4_ k_ ∨ w.heap.size ≤ k_) ∧ some k_ ≠ (u132004 : Value).ownBlock ∧ k_ ≠ gb129 ∧ k_ ≠ gb130 ∧ k_ ≠ gb131) (.slice A0_4 l0_4.length c0_4) l0_4) := ⟨by rw [← hq_]; exact (by (with_reducible repeat (first | apply Kd.V_alloc | apply Kd.V_drewN | apply Kd.V_drew)); exact HO_130004.out)⟩; have n1_ : Aside0 (Kd.R Kd.string 9 wr w.heap.size (fun k_ => (w.heap.size ≤ k_)) u132004 x132004_1) := ⟨by rw [← hq_]; exact (by (with_reducible repeat (first | apply Kd.R_alloc | apply Kd.R_drewN | apply Kd.R_drew)); exact HO_132004.out)⟩; have n2_ : Aside0 (Kd.V Kd.string 9 wr w.heap.size (fun k_ => (P0_4_ k_ ∨ w.heap.size ≤ k_) ∧ some k_ ≠ (u132004 : Value).ownBlock ∧ k_ ≠ gb129 ∧ k_ ≠ gb130 ∧ k_ ≠ gb131) (.slice Ao36 x4_1.length co36) x4_1) := ⟨by rw [← hq_]; exact (by (with_reducible repeat (first | apply Kd.V_alloc | apply Kd.V_drewN | apply Kd.V_drew)); exact HO_4.out)⟩; have n3_ : Aside0 (wr.heap[gb129]? = some (.cells #[.int .i64 a0_0, .int .i64 a0_1, .int .i64 a0_2, .int .i64 a0_3, .slice A0_4 l0_4.length c0_4] 41 (0, 0))) := ⟨by rw [← hq_]; exact (by (with_reducible repeat (first | refine blk_drewN ?_ _ | refine blk_drew ?_ | refine blk_alloc ?_ _)); exact BK129.out)⟩; have n4_ : Aside0 (wr.heap[gb130]? = some (.cells #[.int .i64 0, .int .i64 0, .int .i64 0, .int .i64 0, .slice none 0 0] 41 (0, 0))) := ⟨by rw [← hq_]; exact (by (with_reducible repeat (first | refine blk_drewN ?_ _ | refine blk_drew ?_ | refine blk_alloc ?_ _)); exact BK130.out)⟩; have n5_ : Aside0 (wr.heap[gb131]? = some (.cells #[.int .i64 a0_2, .int .i64 a0_3, .int .i64 a0_0, .int .i64 a0_1, u132004] 41 (0, 0))) := ⟨by rw [← hq_]; exact (by (with_reducible repeat (first | refine blk_drewN ?_ _ | refine blk_drew ?_ | refine blk_alloc ?_ _)); exact BK131.out)⟩; have n6_ : Aside0 (Below w.heap.size w wr) := ⟨by rw [← hq_]; exact (by repeat (first | (with_reducible first | exact HB.out | apply below_alloc | apply pw_below_drewN | apply below_drew1 | refine below_set ?_ GE129.out | refine below_set ?_ GE130.out | refine below_set ?_ GE131.out) | exact HB.out))⟩; clear HO_130004 HO_132004 HO_4 BK129 BK130 BK131 HB hq_; have HO_130004 := n0_; have HO_132004 := n1_; have HO_4 := n2_; have BK129 := n3_; have BK130 := n4_; have BK131 := n5_; have HB := n6_; clear n0_ n1_ n2_ n3_ n4_ n5_ n6_)); have q37 : (t132 : Int) ≤ ((x4_1.length : Int) : Int) := of_decide_eq_true (by first | (with_reducible assumption) | assumption); obtain ⟨i037, hi037, _, hsz37, _⟩ := info_parts info9; have hroom37 : x4_1.length ≤ co36 := (Kd.V_reads' HO_4.out).2.1; have hC37 : Kd.F Kd.string _ _ Ao36 x4_1.length x4_1 := (Kd.V_at (base := w.heap.size) HO_4.out).2.2; have q037 : (0 : Int) ≤ (t132 : Int) := of_decide_eq_true (by first | (with_reducible assumption) | assumption); have hcut37 := cut_from (P := Try.prog) 22 9 .i64 Try.underlying22 hi037 1 hsz37 Ao36 x4_1.length co36 t132 q037 q37; have hr37 := Kd.F_cut (m := (t132 : Int).toNat) (c := co36) hC37 (by omega) hroom37; obtain ⟨A37, hA37⟩ : ∃ A1, A1 = (if co36 = (t132 : Int).toNat then Ao36 else (Ao36 : Option Addr).map (·.add ((t132 : Int).toNat * 1))) := ⟨_, rfl⟩; obtain ⟨c37, hc37⟩ : ∃ c1, c1 = co36 - (t132 : Int).toNat := ⟨_, rfl⟩; have hy37 : y133.length = x4_1.length - (t132 : Int).toNat := (by rw [Ny133.out, List.length_drop] <;> omega); rw [show (x4_1).drop (t132 : Int).toNat = y133 from Ny133.out.symm] at hr37; replace hr37 : Kd.F Kd.string _ _ A37 y133.length y133 := (by rw [hA37]; exact hr37); rw [← hy37, ← hA37, ← hc37] at hcut37; have HO137 := Aside0.mk (show Kd.V Kd.string 9 _ w.heap.size _ (.slice A37 y133.length c37) y133 from Kd.V_mk (by rw [hy37, hc37]; exact Nat.sub_le_sub_right hroom37 _) hr37); have HC137 := Aside0.mk (show y133.length ≤ c37 from by rw [hy37, hc37]; exact Nat.sub_le_sub_right hroom37 _); clear hr37 hC37 hroom37 hi037 hsz37 hc37; have KY37 := Aside0.mk hy37; have KA37 := Aside0.mk hA37; clear hy37 hA37; replace q37 := eq_true q37) | ((with_reducible refine gate_callee (f := 38) rfl ?_); refine goesL_ (some 28) rfl rfl Try.func38 (by kernel_rfl) rfl #[.slice A37 y133.length c37, .int .u8 45] rfl (by (try simp only [List.map_toArray, List.map_cons, List.map_nil]); first | done | rfl | (simp only [List.length_drop, List.length_take]; rfl)) ?_; (with_reducible refine (hunk_run.calls k1 _ _ y133 45 t138 _ ?side1 ?side2 A15.out).mono ?_); (case side1 => repeat (first | exact (Kd.V_reads' HO137.out).2.2 | (with_reducible refine Kd.C_alloc ?_ _) | (with_reducible refine Kd.C_drewN ?_ _) | (with_reducible refine Kd.C_drew ?_))); (case side2 => exact (Kd.V_reads' HO137.out).2.1); rintro e w' ⟨rfl, ⟨nd, rfl⟩⟩; refine ⟨_, rfl, ?_⟩; (try (rw [drewN_self wr]; generalize hq_ : World.drewN wr _ = wr; have n0_ : Aside0 (Kd.V Kd.string 9 wr w.heap.size (fun k_ => (P0_4_ k_ ∨ w.heap.size ≤ k_) ∧ some k_ ≠ (u132004 : Value).ownBlock ∧ k_ ≠ gb129 ∧ k_ ≠ gb130 ∧ k_ ≠ gb131) (.slice A37 y133.length c37) y133) := ⟨by rw [← hq_]; exact (by (with_reducible repeat (first | apply Kd.V_alloc | apply Kd.V_drewN | apply Kd.V_drew)); exact HO137.out)⟩; have n1_ : Aside0 (Kd.V Kd.string 9 wr w.heap.size (fun k_ => (P0_4_ k_ ∨ w.heap.size ≤ k_) ∧ some k_ ≠ (u132004 : Value).ownBlock ∧ k_ ≠ gb129 ∧ k_ ≠ gb130 ∧ k_ ≠ gb131) (.slice A0_4 l0_4.length c0_4) l0_4) := ⟨by rw [← hq_]; exact (by (with_reducible repeat (first | apply Kd.V_alloc | apply Kd.V_drewN | apply Kd.V_drew)); exact HO_130004.out)⟩; have n2_ : Aside0 (Kd.R Kd.string 9 wr w.heap.size (fun k_ => (w.heap.size ≤ k_)) u132004 x132004_1) := ⟨by rw [← hq_]; exact (by (with_reducible repeat (first | apply Kd.R_alloc | apply Kd.R_drewN | apply Kd.R_drew)); exact HO_132004.out)⟩; have n3_ : Aside0 (Kd.V Kd.string 9 wr w.heap.size (fun k_ => (P0_4_ k_ ∨ w.heap.size ≤ k_) ∧ some k_ ≠ (u132004 : Value).ownBlock ∧ k_ ≠ gb129 ∧ k_ ≠ gb130 ∧ k_ ≠ gb131) (.slice Ao36 x4_1.length co36) x4_1) := ⟨by rw [← hq_]; exact (by (with_reducible repeat (first | apply Kd.V_alloc | apply Kd.V_drewN | apply Kd.V_drew)); exact HO_4.out)⟩; have n4_ : Aside0 (wr.heap[gb129]? = some (.cells #[.int .i64 a0_0, .int .i64 a0_1, .int .i64 a0_2, .int .i64 a0_3, .slice A0_4 l0_4.length c0_4] 41 (0, 0))) := ⟨by rw [← hq_]; exact (by (with_reducible repeat (first | refine blk_drewN ?_ _ | refine blk_drew ?_ | refine blk_alloc ?_ _)); exact BK129.out)⟩; have n5_ : Aside0 (wr.heap[gb130]? = some (.cells #[.int .i64 0, .int .i64 0, .int .i64 0, .int .i64 0, .slice none 0 0] 41 (0, 0))) := ⟨by rw [← hq_]; exact (by (with_reducible repeat (first | refine blk_drewN ?_ _ | refine blk_drew ?_ | refine blk_alloc ?_ _)); exact BK130.out)⟩; have n6_ : Aside0 (wr.heap[gb131]? = some (.cells #[.int .i64 a0_2, .int .i64 a0_3, .int .i64 a0_0, .int .i64 a0_1, u132004] 41 (0, 0))) := ⟨by rw [← hq_]; exact (by (with_reducible repeat (first | refine blk_drewN ?_ _ | refine blk_drew ?_ | refine blk_alloc ?_ _)); exact BK131.out)⟩; have n7_ : Aside0 (Below w.heap.size w wr) := ⟨by rw [← hq_]; exact (by repeat (first | (with_reducible first | exact HB.out | apply below_alloc | apply pw_below_drewN | apply below_drew1 | refine below_set ?_ GE129.out | refine below_set ?_ GE130.out | refine below_set ?_ GE131.out) | exact HB.out))⟩; clear HO137 HO_130004 HO_132004 HO_4 BK129 BK130 BK131 HB hq_; have HO137 := n0_; have HO_130004 := n1_; have HO_132004 := n2_; have HO_4 := n3_; have BK129 := n4_; have BK130 := n5_; have BK131 := n6_; have HB := n7_; clear n0_ n1_ n2_ n3_ n4_ n5_ n6_ n7_)); have q38 : ((ji16) : Int) ≤ ((x4_1.length : Int) : Int) := of_decide_eq_true (by first | (with_reducible assumption) | assumption); obtain ⟨i038, hi038, _, hsz38, _⟩ := info_parts info9; have hroom38 : x4_1.length ≤ co36 := (Kd.V_reads' HO_4.out).2.1; have hC38 : Kd.F Kd.string _ _ Ao36 x4_1.length x4_1 := (Kd.V_at (base := w.heap.size) HO_4.out).2.2; have q038 : (0 : Int) ≤ ((ji16) : Int) := of_decide_eq_true (by first | (with_reducible assumption) | assumption); have hcut38 := cut_from (P := Try.prog) 22 9 .i64 Try.underlying22 hi038 1 hsz38 Ao36 x4_1.length co36 (ji16) q038 q38; have hr38 := Kd.F_cut (m := ((ji16) : Int).toNat) (c := co36) hC38 (by omega) hroom38; obtain ⟨A38, hA38⟩ : ∃ A1, A1 = (if co36 = ((ji16) : Int).toNat then Ao36 else (Ao36 : Option Addr).map (·.add (((ji16) : Int).toNat * 1))) := ⟨_, rfl⟩; obtain ⟨c38, hc38⟩ : ∃ c1, c1 = co36 - ((ji16) : Int).toNat := ⟨_, rfl⟩; have hy38 : y139.length = x4_1.length - ((ji16) : Int).toNat := (by rw [Ny139.out, List.length_drop] <;> omega); rw [show (x4_1).drop ((ji16) : Int).toNat = y139 from Ny139.out.symm] at hr38; replace hr38 : Kd.F Kd.string _ _ A38 y139.length y139 := (by rw [hA38]; exact hr38); rw [← hy38, ← hA38, ← hc38] at hcut38; have HO143 := Aside0.mk (show Kd.V Kd.string 9 _ w.heap.size _ (.slice A38 y139.length c38) y139 from Kd.V_mk (by rw [hy38, hc38]; exact Nat.sub_le_sub_right hroom38 _) hr38); have HC143 := Aside0.mk (show y139.length ≤ c38 from by rw [hy38, hc38]; exact Nat.sub_le_sub_right hroom38 _); clear hr38 hC38 hroom38 hi038 hsz38 hc38; have KY38 := Aside0.mk hy38; have KA38 := Aside0.mk hA38; clear hy38 hA38; replace q38 := eq_true q38) | ((with_reducible refine gate_callee (f := 38) rfl ?_); refine goesL_ (some 34) rfl rfl Try.func38 (by kernel_rfl) rfl #[.slice A38 y139.length c38, .int .u8 43] rfl (by (try simp only [List.map_toArray, List.map_cons, List.map_nil]); first | done | rfl | (simp only [List.length_drop, List.length_take]; rfl)) ?_; (with_reducible refine (hunk_run.calls k1 _ _ y139 43 t144 _ ?side1 ?side2 A19.out).mono ?_); (case side1 => repeat (first | exact (Kd.V_reads' HO143.out).2.2 | (with_reducible refine Kd.C_alloc ?_ _) | (with_reducible refine Kd.C_drewN ?_ _) | (with_reducible refine Kd.C_drew ?_))); (case side2 => exact (Kd.V_reads' HO143.out).2.1); rintro e w' ⟨rfl, ⟨nd, rfl⟩⟩; refine ⟨_, rfl, ?_⟩; (try (rw [drewN_self wr]; generalize hq_ : World.drewN wr _ = wr; have n0_ : Aside0 (Kd.V Kd.string 9 wr w.heap.size (fun k_ => (P0_4_ k_ ∨ w.heap.size ≤ k_) ∧ some k_ ≠ (u132004 : Value).ownBlock ∧ k_ ≠ gb129 ∧ k_ ≠ gb130 ∧ k_ ≠ gb131) (.slice A37 y133.length c37) y133) := ⟨by rw [← hq_]; exact (by (with_reducible repeat (first | apply Kd.V_alloc | apply Kd.V_drewN | apply Kd.V_drew)); exact HO137.out)⟩; have n1_ : Aside0 (Kd.V Kd.string 9 wr w.heap.size (fun k_ => (P0_4_ k_ ∨ w.heap.size ≤ k_) ∧ some k_ ≠ (u132004 : Value).ownBlock ∧ k_ ≠ gb129 ∧ k_ ≠ gb130 ∧ k_ ≠ gb131) (.slice A38 y139.length c38) y139) := ⟨by rw [← hq_]; exact (by (with_reducible repeat (first | apply Kd.V_alloc | apply Kd.V_drewN | apply Kd.V_drew)); exact HO143.out)⟩; have n2_ : Aside0 (Kd.V Kd.string 9 wr w.heap.size (fun k_ => (P0_4_ k_ ∨ w.heap.size ≤ k_) ∧ some k_ ≠ (u132004 : Value).ownBlock ∧ k_ ≠ gb129 ∧ k_ ≠ gb130 ∧ k_ ≠ gb131) (.slice A0_4 l0_4.length c0_4) l0_4) := ⟨by rw [← hq_]; exact (by (with_reducible repeat (first | apply Kd.V_alloc | apply Kd.V_drewN | apply Kd.V_drew)); exact HO_130004.out)⟩; have n3_ : Aside0 (Kd.R Kd.string 9 wr w.heap.size (fun k_ => (w.heap.size ≤ k_)) u132004 x132004_1) := ⟨by rw [← hq_]; exact (by (with_reducible repeat (first | apply Kd.R_alloc | apply Kd.R_drewN | apply Kd.R_drew)); exact HO_132004.out)⟩; have n4_ : Aside0 (Kd.V Kd.string 9 wr w.heap.size (fun k_ => (P0_4_ k_ ∨ w.heap.size ≤ k_) ∧ some k_ ≠ (u132004 : Value).ownBlock ∧ k_ ≠ gb129 ∧ k_ ≠ gb130 ∧ k_ ≠ gb131) (.slice Ao36 x4_1.length co36) x4_1) := ⟨by rw [← hq_]; exact (by (with_reducible repeat (first | apply Kd.V_alloc | apply Kd.V_drewN | apply Kd.V_drew)); exact HO_4.out)⟩; have n5_ : Aside0 (wr.heap[gb129]? = some (.cells #[.int .i64 a0_0, .int .i64 a0_1, .int .i64 a0_2, .int .i64 a0_3, .slice A0_4 l0_4.length c0_4] 41 (0, 0))) := ⟨by rw [← hq_]; exact (by (with_reducible repeat (first | refine blk_drewN ?_ _ | refine blk_drew ?_ | refine blk_alloc ?_ _)); exact BK129.out)⟩; have n6_ : Aside0 (wr.heap[gb130]? = some (.cells #[.int .i64 0, .int .i64 0, .int .i64 0, .int .i64 0, .slice none 0 0] 41 (0, 0))) := ⟨by rw [← hq_]; exact (by (with_reducible repeat (first | refine blk_drewN ?_ _ | refine blk_drew ?_ | refine blk_alloc ?_ _)); exact BK130.out)⟩; have n7_ : Aside0 (wr.heap[gb131]? = some (.cells #[.int .i64 a0_2, .int .i64 a0_3, .int .i64 a0_0, .int .i64 a0_1, u132004] 41 (0, 0))) := ⟨by rw [← hq_]; exact (by (with_reducible repeat (first | refine blk_drewN ?_ _ | refine blk_drew ?_ | refine blk_alloc ?_ _)); exact BK131.out)⟩; have n8_ : Aside0 (Below w.heap.size w wr) := ⟨by rw [← hq_]; exact (by repeat (first | (with_reducible first | exact HB.out | apply below_alloc | apply pw_below_drewN | apply below_drew1 | refine below_set ?_ GE129.out | refine below_set ?_ GE130.out | refine below_set ?_ GE131.out) | exact HB.out))⟩; clear HO137 HO143 HO_130004 HO_132004 HO_4 BK129 BK130 BK131 HB hq_; have HO137 := n0_; have HO143 := n1_; have HO_130004 := n2_; have HO_132004 := n3_; have HO_4 := n4_; have BK129 := n5_; have BK130 := n6_; have BK131 := n7_; have HB := n8_; clear n0_ n1_ n2_ n3_ n4_ n5_ n6_ n7_ n8_))))
            have n0_ := Aside0.mk (Kd.V_drew HO_4.out)
            have n1_ := Aside0.mk (Kd.V_drew HO_130004.out)
            have n2_ := Aside0.mk (Kd.R_drew HO_132004.out)
            have n3_ := Aside0.mk (Kd.V_drew HO137.out)
            have n4_ := Aside0.mk (Kd.V_drew HO143.out)
            have n5_ := Aside0.mk (blk_drew BK129.out)
            have n6_ := Aside0.mk (blk_drew BK130.out)
            have n7_ := Aside0.mk (blk_drew BK131.out)
            have n8_ := Aside0.mk (below_drew1 HB.out)
            clear HO_4
            clear HO_130004
            clear HO_132004
            clear HO137
            clear HO143
            clear BK129
            clear BK130
            clear BK131
            clear HB
            have HO_4 := n0_
            have HO_130004 := n1_
            have HO_132004 := n2_
            have HO137 := n3_
            have HO143 := n4_
            have BK129 := n5_
            have BK130 := n6_
            have BK131 := n7_
            have HB := n8_
            clear n0_ n1_ n2_ n3_ n4_ n5_ n6_ n7_ n8_
            have q40 : (t132 : Int) ≤ ((x4_1.length : Int) : Int) := of_decide_eq_true (by first | (with_reducible assumption) | assumption)
            obtain ⟨i040, hi040, _, hsz40, _⟩ := info_parts info9
            have hroom40 : x4_1.length ≤ co36 := (Kd.V_reads' HO_4.out).2.1
            have hC40 : Kd.F Kd.string _ _ Ao36 x4_1.length x4_1 := (Kd.V_at (base := w.heap.size) HO_4.out).2.2
            have hcut40 := cut_to (P := Try.prog) 22 9 .i64 Try.underlying22 hi040 Ao36 x4_1.length co36 t132 (of_decide_eq_true (by first | (with_reducible assumption) | assumption)) q40 hroom40
            have hr40 := Kd.F_take (m := (t132 : Int).toNat) hC40 (by omega)
            have hy40 : y145.length = (t132 : Int).toNat := (by rw [Ny145.out, List.length_take]; omega)
            rw [← Ny145.out] at hr40
            rw [← hy40] at hcut40
            have HO149 := Aside0.mk (show Kd.V Kd.string 9 _ w.heap.size _ (.slice Ao36 y145.length co36) y145 from Kd.V_mk (by omega) hr40)
            have HC149 := Aside0.mk (show y145.length ≤ co36 from by omega)
            clear hr40 hC40 hroom40 hi040 hsz40
            have KY40 := Aside0.mk hy40
            clear hy40
            replace q40 := eq_true q40
            have q41 : ((ji33) : Int) ≤ ((x4_1.length : Int) : Int) := of_decide_eq_true (by first | (with_reducible assumption) | assumption)
            obtain ⟨i041, hi041, _, hsz41, _⟩ := info_parts info9
            have hroom41 : x4_1.length ≤ co36 := (Kd.V_reads' HO_4.out).2.1
            have hC41 : Kd.F Kd.string _ _ Ao36 x4_1.length x4_1 := (Kd.V_at (base := w.heap.size) HO_4.out).2.2
            have ql41 : ((ji16) : Int) ≤ ((ji33) : Int) := of_decide_eq_true (by first | (with_reducible assumption) | assumption)
            have q041 : (0 : Int) ≤ ((ji16) : Int) := of_decide_eq_true (by first | (with_reducible assumption) | assumption)
            have hcut41 := cut_mid (P := Try.prog) 22 9 .i64 .i64 Try.underlying22 hi041 1 hsz41 Ao36 x4_1.length co36 (ji16) (ji33) q041 ql41 q41 hroom41
            have hr41 := Kd.F_mid (lo := ((ji16) : Int).toNat) (hi := ((ji33) : Int).toNat) (c := co36) hC41 (by omega) (by omega) hroom41
            obtain ⟨A41, hA41⟩ : ∃ A1, A1 = (if co36 = ((ji16) : Int).toNat then Ao36 else (Ao36 : Option Addr).map (·.add (((ji16) : Int).toNat * 1))) := ⟨_, rfl⟩
            obtain ⟨c41, hc41⟩ : ∃ c1, c1 = co36 - ((ji16) : Int).toNat := ⟨_, rfl⟩
            have hy41 : y150.length = ((ji33) : Int).toNat - ((ji16) : Int).toNat := (by rw [Ny150.out, List.length_drop, List.length_take] <;> omega)
            rw [show ((x4_1).take ((ji33) : Int).toNat).drop ((ji16) : Int).toNat = y150 from Ny150.out.symm] at hr41
            replace hr41 : Kd.F Kd.string _ _ A41 y150.length y150 := (by rw [hA41]; exact hr41)
            rw [← hy41, ← hA41, ← hc41] at hcut41
            have HO154 := Aside0.mk (show Kd.V Kd.string 9 _ w.heap.size _ (.slice A41 y150.length c41) y150 from Kd.V_mk (by rw [hy41, hc41]; exact Nat.sub_le_sub_right (Nat.le_trans (by omega) hroom41) _) hr41)
            have HC154 := Aside0.mk (show y150.length ≤ c41 from by rw [hy41, hc41]; exact Nat.sub_le_sub_right (Nat.le_trans (by omega) hroom41) _)
            clear hr41 hC41 hroom41 hi041 hsz41 hc41
            have KY41 := Aside0.mk hy41
            have KA41 := Aside0.mk hA41
            clear hy41 hA41
            replace q41 := eq_true q41
            have q42 : ((ji16) : Int) ≤ ((x4_1.length : Int) : Int) := of_decide_eq_true (by first | (with_reducible assumption) | assumption)
            obtain ⟨i042, hi042, _, hsz42, _⟩ := info_parts info9
            have hroom42 : x4_1.length ≤ co36 := (Kd.V_reads' HO_4.out).2.1
            have hC42 : Kd.F Kd.string _ _ Ao36 x4_1.length x4_1 := (Kd.V_at (base := w.heap.size) HO_4.out).2.2
            have ql42 : (t132 : Int) ≤ ((ji16) : Int) := of_decide_eq_true (by first | (with_reducible assumption) | assumption)
            have q042 : (0 : Int) ≤ (t132 : Int) := of_decide_eq_true (by first | (with_reducible assumption) | assumption)
            have hcut42 := cut_mid (P := Try.prog) 22 9 .i64 .i64 Try.underlying22 hi042 1 hsz42 Ao36 x4_1.length co36 t132 (ji16) q042 ql42 q42 hroom42
            have hr42 := Kd.F_mid (lo := (t132 : Int).toNat) (hi := ((ji16) : Int).toNat) (c := co36) hC42 (by omega) (by omega) hroom42
            obtain ⟨A42, hA42⟩ : ∃ A1, A1 = (if co36 = (t132 : Int).toNat then Ao36 else (Ao36 : Option Addr).map (·.add ((t132 : Int).toNat * 1))) := ⟨_, rfl⟩
            obtain ⟨c42, hc42⟩ : ∃ c1, c1 = co36 - (t132 : Int).toNat := ⟨_, rfl⟩
            have hy42 : y161.length = ((ji16) : Int).toNat - (t132 : Int).toNat := (by rw [Ny161.out, List.length_drop, List.length_take] <;> omega)
            rw [show ((x4_1).take ((ji16) : Int).toNat).drop (t132 : Int).toNat = y161 from Ny161.out.symm] at hr42
            replace hr42 : Kd.F Kd.string _ _ A42 y161.length y161 := (by rw [hA42]; exact hr42)
            rw [← hy42, ← hA42, ← hc42] at hcut42
            have HO165 := Aside0.mk (show Kd.V Kd.string 9 _ w.heap.size _ (.slice A42 y161.length c42) y161 from Kd.V_mk (by rw [hy42, hc42]; exact Nat.sub_le_sub_right (Nat.le_trans (by omega) hroom42) _) hr42)
            have HC165 := Aside0.mk (show y161.length ≤ c42 from by rw [hy42, hc42]; exact Nat.sub_le_sub_right (Nat.le_trans (by omega) hroom42) _)
            clear hr42 hC42 hroom42 hi042 hsz42 hc42
            have KY42 := Aside0.mk hy42
            have KA42 := Aside0.mk hA42
            clear hy42 hA42
            replace q42 := eq_true q42
            refine start_ (n := 21) (S := fun w' => w'.cell? ⟨gb131, 0, none⟩ = some (.int .i64 a0_2) ∧ w'.cell? ⟨gb131, 1, none⟩ = some (.int .i64 a0_3) ∧ w'.cell? ⟨gb131, 2, none⟩ = some (.int .i64 a0_0) ∧ w'.cell? ⟨gb131, 3, none⟩ = some (.int .i64 a0_1) ∧ w'.cell? ⟨gb131, 4, none⟩ = some (u132004)) (ds := [20]) #[false, false, false, false, false, false, false, false, false, false, false, false, false, false, false, false, false, false, false, false, false] (by kernel_rfl) rfl rfl ⟨(blk_cell BK131.out 0).trans rfl, (blk_cell BK131.out 1).trans rfl, (blk_cell BK131.out 2).trans rfl, (blk_cell BK131.out 3).trans rfl, (blk_cell BK131.out 4).trans rfl⟩ (fun hHeld => ?_); refine with_tabW hunk_Turn.tab7 hunk_Turn.bits7 (fun HT_ HW_ => ?_)
            generalize wr.drew = w39 at HO_4 HO_130004 HO_132004 HO137 HO143 BK129 BK130 BK131 HB HO149 HO154 HO165 hHeld ⊢
            refine pure_ (i := 0) (N := some 36) (v := ?_) (a' := ?_) #[true, false, false, false, false, false, false, false, false, false, false, false, false, false, false, false, false, false, false, false, false] rfl rfl (any_of HT_.out (by kernel_rfl)) (fun _ _ _ h => h) (Or.inl ⟨by rfl, ?_⟩) ?_ ?_
            rotate_left
            ·intro w'
             go_simp
             with_reducible rfl
            rotate_left
            ·simp only [Act.put, List.setIfInBounds_toArray, List.set_cons_zero, List.set_cons_succ, i64_w, i32_w]
             rfl
            refine pure_ (i := 2) (N := some 38) (v := ?_) (a' := ?_) #[true, false, true, false, false, false, false, false, false, false, false, false, false, false, false, false, false, false, false, false, false] rfl rfl (any_of HT_.out (by kernel_rfl)) (fun _ _ _ h => h) (Or.inl ⟨by rfl, ?_⟩) ?_ ?_
            rotate_left
            ·intro w'
             go_simp
             with_reducible rfl
            rotate_left
            ·simp only [Act.put, List.setIfInBounds_toArray, List.set_cons_zero, List.set_cons_succ, i64_w, i32_w]
             rfl
            refine pure_ (i := 3) (N := some 39) (v := ?_) (a' := ?_) #[true, false, true, true, false, false, false, false, false, false, false, false, false, false, false, false, false, false, false, false, false] rfl rfl (any_of HT_.out (by kernel_rfl)) (fun _ _ _ h => h) (Or.inl ⟨by rfl, ?_⟩) ?_ ?_
            rotate_left
            ·intro w'
             go_simp
             with_reducible rfl
            rotate_left
            ·simp only [Act.put, List.setIfInBounds_toArray, List.set_cons_zero, List.set_cons_succ, i64_w, i32_w]
             rfl
            refine pure_ (i := 4) (N := some 40) (v := ?_) (a' := ?_) #[true, false, true, true, true, false, false, false, false, false, false, false, false, false, false, false, false, false, false, false, false] rfl rfl (any_of HT_.out (by kernel_rfl)) (fun _ _ _ h => h) (Or.inl ⟨by rfl, ?_⟩) ?_ ?_
            rotate_left
            ·intro w'
             go_simp
             with_reducible rfl
            rotate_left
            ·simp only [Act.put, List.setIfInBounds_toArray, List.set_cons_zero, List.set_cons_succ, i64_w, i32_w]
             rfl
            refine pure_ (i := 5) (N := some 41) (v := ?_) (a' := ?_) #[true, false, true, true, true, true, false, false, false, false, false, false, false, false, false, false, false, false, false, false, false] rfl rfl (any_of HT_.out (by kernel_rfl)) (fun _ _ _ h => h) (Or.inl ⟨by rfl, ?_⟩) ?_ ?_
            rotate_left
            ·intro w'
             go_simp
             with_reducible rfl
            rotate_left
            ·simp only [Act.put, List.setIfInBounds_toArray, List.set_cons_zero, List.set_cons_succ, i64_w, i32_w]
             rfl
            refine pure_ (i := 6) (N := some 42) (v := ?_) (a' := ?_) #[true, false, true, true, true, true, true, false, false, false, false, false, false, false, false, false, false, false, false, false, false] rfl rfl (any_of HT_.out (by kernel_rfl)) (fun _ _ _ h => h) (Or.inl ⟨by rfl, ?_⟩) ?_ ?_
            rotate_left
            ·intro w'
             go_simp
             with_reducible rfl
            rotate_left
            ·simp only [Act.put, List.setIfInBounds_toArray, List.set_cons_zero, List.set_cons_succ, i64_w, i32_w]
             rfl
            refine pure_ (i := 7) (N := some 43) (v := ?_) (a' := ?_) #[true, false, true, true, true, true, true, true, false, false, false, false, false, false, false, false, false, false, false, false, false] rfl rfl (any_of HT_.out (by kernel_rfl)) (fun _ _ _ h => h) (Or.inl ⟨by rfl, ?_⟩) ?_ ?_
            rotate_left
            ·intro w'
             go_simp
             with_reducible rfl
            rotate_left
            ·simp only [Act.put, List.setIfInBounds_toArray, List.set_cons_zero, List.set_cons_succ, i64_w, i32_w]
             rfl
            refine pure_ (i := 8) (N := some 44) (v := ?_) (a' := ?_) #[true, false, true, true, true, true, true, true, true, false, false, false, false, false, false, false, false, false, false, false, false] rfl rfl (any_of HT_.out (by kernel_rfl)) (fun _ _ _ h => h) (Or.inl ⟨by rfl, ?_⟩) ?_ ?_
            rotate_left
            ·intro w'
             go_simp
             with_reducible rfl
            rotate_left
            ·simp only [Act.put, List.setIfInBounds_toArray, List.set_cons_zero, List.set_cons_succ, i64_w, i32_w]
             rfl
            refine pure_ (i := 11) (N := some 47) (v := ?_) (a' := ?_) #[true, false, true, true, true, true, true, true, true, false, false, true, false, false, false, false, false, false, false, false, false] rfl rfl (any_of HT_.out (by kernel_rfl)) (fun _ _ _ h => h) (Or.inl ⟨by rfl, ?_⟩) ?_ ?_
            rotate_left
            ·intro w'
             go_simp
             with_reducible rfl
            rotate_left
            ·simp only [Act.put, List.setIfInBounds_toArray, List.set_cons_zero, List.set_cons_succ, i64_w, i32_w]
             rfl
            refine pure_ (i := 12) (N := some 48) (v := ?_) (a' := ?_) #[true, false, true, true, true, true, true, true, true, false, false, true, true, false, false, false, false, false, false, false, false] rfl rfl (any_of HT_.out (by kernel_rfl)) (fun _ _ _ h => h) (Or.inl ⟨by rfl, ?_⟩) ?_ ?_
            rotate_left
            ·intro w'
             go_simp
             with_reducible rfl
            rotate_left
            ·simp only [Act.put, List.setIfInBounds_toArray, List.set_cons_zero, List.set_cons_succ, i64_w, i32_w]
             rfl
            refine pure_ (i := 13) (N := some 49) (v := ?_) (a' := ?_) #[true, false, true, true, true, true, true, true, true, false, false, true, true, true, false, false, false, false, false, false, false] rfl rfl (any_of HT_.out (by kernel_rfl)) (fun _ _ _ h => h) (Or.inl ⟨by rfl, ?_⟩) ?_ ?_
            rotate_left
            ·intro w'
             go_simp
             with_reducible rfl
            rotate_left
            ·simp only [Act.put, List.setIfInBounds_toArray, List.set_cons_zero, List.set_cons_succ, i64_w, i32_w]
             rfl
            refine pure_ (i := 14) (N := some 50) (v := ?_) (a' := ?_) #[true, false, true, true, true, true, true, true, true, false, false, true, true, true, true, false, false, false, false, false, false] rfl rfl (any_of HT_.out (by kernel_rfl)) (fun _ _ _ h => h) (Or.inl ⟨by rfl, ?_⟩) ?_ ?_
            rotate_left
            ·intro w'
             go_simp
             with_reducible rfl
            rotate_left
            ·simp only [Act.put, List.setIfInBounds_toArray, List.set_cons_zero, List.set_cons_succ, i64_w, i32_w]
             rfl
            refine take_ (i := 1) (N := some 37) (v := ?_) (a' := ?_) #[true, true, true, true, true, true, true, true, true, false, false, true, true, true, true, false, false, false, false, false, false] rfl rfl (take_ofW HT_.out HW_.out (by kernel_rfl)) (fun _ _ _ h => h) (Or.inl ⟨by rfl, ?_⟩) hHeld ?_ ?_
            rotate_left
            ·rintro w' ⟨s0, s1, s2, s3, s4⟩
             go_simp
             with_reducible rfl
            rotate_left
            ·simp only [Act.put, List.setIfInBounds_toArray, List.set_cons_zero, List.set_cons_succ, i64_w, i32_w]
             rfl
            refine one_ (i := 9) (N := some 45) #[true, true, true, true, true, true, true, true, true, true, false, true, true, true, true, false, false, false, false, false, false] rfl rfl (one_of HT_.out (by kernel_rfl)) (by decide) (fun K hK => ?_)
            refine goes_ Try.func41 (by kernel_rfl) rfl #[.slice A41 y150.length c41] (by rfl) rfl rfl (by (try simp only [List.map_toArray, List.map_cons, List.map_nil]); first | done | rfl | (simp only [List.length_drop, List.length_take]; rfl)) ?_
            with_reducible refine (hunk_bare.calls k1 _ _ y150 t155 _ ?side1 ?side2 A25.out).mono ?_
            (case side1 => repeat (first | exact (Kd.V_reads' HO154.out).2.2 | (with_reducible refine Kd.C_alloc ?_ _) | (with_reducible refine Kd.C_drewN ?_ _) | (with_reducible refine Kd.C_drew ?_)))
            (case side2 => exact (Kd.V_reads' HO154.out).2.1)
            rintro e w43 ⟨v156, rfl, ho0, hb⟩
            refine ⟨_, rfl, ?_⟩
            have n0_ := Aside0.mk (Kd.V_elder' (by (with_reducible repeat (first | apply Kd.V_alloc | apply Kd.V_drewN | apply Kd.V_drew)); exact HO_4.out) (Kd.R_base ho0) hb)
            have n1_ := Aside0.mk (Kd.V_elder' (by (with_reducible repeat (first | apply Kd.V_alloc | apply Kd.V_drewN | apply Kd.V_drew)); exact HO_130004.out) (Kd.R_base ho0) hb)
            have n2_ := Aside0.mk (Kd.R_elder' (by (with_reducible repeat (first | apply Kd.R_alloc | apply Kd.R_drewN | apply Kd.R_drew)); exact HO_132004.out) (Kd.R_base ho0) hb)
            have n3_ := Aside0.mk (Kd.V_elder' (by (with_reducible repeat (first | apply Kd.V_alloc | apply Kd.V_drewN | apply Kd.V_drew)); exact HO137.out) (Kd.R_base ho0) hb)
            have n4_ := Aside0.mk (Kd.V_elder' (by (with_reducible repeat (first | apply Kd.V_alloc | apply Kd.V_drewN | apply Kd.V_drew)); exact HO143.out) (Kd.R_base ho0) hb)
            have n5_ := Aside0.mk (Kd.V_elder' (by (with_reducible repeat (first | apply Kd.V_alloc | apply Kd.V_drewN | apply Kd.V_drew)); exact HO149.out) (Kd.R_base ho0) hb)
            have n6_ := Aside0.mk (Kd.V_elder' (by (with_reducible repeat (first | apply Kd.V_alloc | apply Kd.V_drewN | apply Kd.V_drew)); exact HO154.out) (Kd.R_base ho0) hb)
            have n7_ := Aside0.mk (Kd.V_elder' (by (with_reducible repeat (first | apply Kd.V_alloc | apply Kd.V_drewN | apply Kd.V_drew)); exact HO165.out) (Kd.R_base ho0) hb)
            have n8_ := Aside0.mk (Kd.R_lower (Kd.R_new' (Kd.R_newM (M := fun k_ => (w.heap.size ≤ k_)) ho0 (below_size (by repeat (first | (with_reducible first | exact HB.out | apply below_alloc | apply pw_below_drewN | apply below_drew1 | refine below_set ?_ GE129.out | refine below_set ?_ GE130.out | refine below_set ?_ GE131.out) | exact HB.out))) (fun k_ h_ => h_)) (Kd.R_lt (by (with_reducible repeat (first | apply Kd.R_alloc | apply Kd.R_drewN | apply Kd.R_drew)); exact HO_132004.out))) (below_size (by repeat (first | (with_reducible first | exact HB.out | apply below_alloc | apply pw_below_drewN | apply below_drew1 | refine below_set ?_ GE129.out | refine below_set ?_ GE130.out | refine below_set ?_ GE131.out) | exact HB.out))))
            have n9_ := Aside0.mk (blk_below (g := gb129) (o := .cells #[.int .i64 a0_0, .int .i64 a0_1, .int .i64 a0_2, .int .i64 a0_3, .slice A0_4 l0_4.length c0_4] 41 (0, 0)) (by (with_reducible repeat (first | refine blk_drewN ?_ _ | refine blk_drew ?_ | refine blk_alloc ?_ _)); exact BK129.out) hb)
            have n10_ := Aside0.mk (blk_below (g := gb130) (o := .cells #[.int .i64 0, .int .i64 0, .int .i64 0, .int .i64 0, .slice none 0 0] 41 (0, 0)) (by (with_reducible repeat (first | refine blk_drewN ?_ _ | refine blk_drew ?_ | refine blk_alloc ?_ _)); exact BK130.out) hb)
            have n11_ := Aside0.mk (blk_below (g := gb131) (o := .cells #[.int .i64 a0_2, .int .i64 a0_3, .int .i64 a0_0, .int .i64 a0_1, u132004] 41 (0, 0)) (by (with_reducible repeat (first | refine blk_drewN ?_ _ | refine blk_drew ?_ | refine blk_alloc ?_ _)); exact BK131.out) hb)
            have n12_ := Aside0.mk (below_step (by repeat (first | (with_reducible first | exact HB.out | apply below_alloc | apply pw_below_drewN | apply below_drew1 | refine below_set ?_ GE129.out | refine below_set ?_ GE130.out | refine below_set ?_ GE131.out) | exact HB.out)) hb)
            clear HO_4
            clear HO_130004
            clear HO_132004
            clear HO137
            clear HO143
            clear HO149
            clear HO154
            clear HO165
            clear BK129
            clear BK130
            clear BK131
            clear HB
            have HO_4 := n0_
            have HO_130004 := n1_
            have HO_132004 := n2_
            have HO137 := n3_
            have HO143 := n4_
            have HO149 := n5_
            have HO154 := n6_
            have HO165 := n7_
            have HO157 := n8_
            have BK129 := n9_
            have BK130 := n10_
            have BK131 := n11_
            have HB := n12_
            clear n0_ n1_ n2_ n3_ n4_ n5_ n6_ n7_ n8_ n9_ n10_ n11_ n12_
            (try clear hb)
            (try clear hb2)
            (try clear hk)
            (try clear hi)
            (try clear ho0)
            obtain ⟨Ao44, co44, eo44⟩ := Kd.R_slice HO157.out
            (first | subst eo44 | (injection eo44 with f1_ f2_ f3_; have f4_ := f1_.symm; have f5_ := f3_.symm; clear f1_ f2_ f3_; subst f4_; subst f5_))
            refine hK.out _ _ ⟨(blk_cell BK131.out 0).trans rfl, (blk_cell BK131.out 1).trans rfl, (blk_cell BK131.out 2).trans rfl, (blk_cell BK131.out 3).trans rfl, (blk_cell BK131.out 4).trans rfl⟩ (fun hHeld => ?_)
            clear hK K
            refine norm_ (a' := ?_) ?_ ?_
            rotate_left
            ·show Act.put _ (some 45) _ = _
             simp only [Act.put, List.setIfInBounds_toArray, List.set_cons_zero, List.set_cons_succ, i64_w, i32_w]
             rfl
            refine one_ (i := 10) (N := some 46) #[true, true, true, true, true, true, true, true, true, true, true, true, true, true, true, false, false, false, false, false, false] rfl rfl (one_of HT_.out (by kernel_rfl)) (by decide) (fun K hK => ?_)
            refine goes_ Try.func40 (by kernel_rfl) rfl #[.int .u8 45, .slice Ao44 t155.length co44] (by rfl) rfl rfl (by (try simp only [List.map_toArray, List.map_cons, List.map_nil]); first | done | rfl | (simp only [List.length_drop, List.length_take]; rfl)) ?_
            with_reducible refine (hunk_signed.calls k1 45 _ _ t155 t158 _ ?side1 ?side2 A26.out).mono ?_
            (case side1 => repeat (first | exact (Kd.R_reads' HO157.out).2.2 | (with_reducible refine Kd.C_alloc ?_ _) | (with_reducible refine Kd.C_drewN ?_ _) | (with_reducible refine Kd.C_drew ?_)))
            (case side2 => exact (Kd.R_reads' HO157.out).2.1)
            rintro e w45 ⟨v159, rfl, ho0, hb⟩
            refine ⟨_, rfl, ?_⟩
            have n0_ := Aside0.mk (Kd.V_elder' (by (with_reducible repeat (first | apply Kd.V_alloc | apply Kd.V_drewN | apply Kd.V_drew)); exact HO_4.out) (Kd.R_base ho0) hb)
            have n1_ := Aside0.mk (Kd.V_elder' (by (with_reducible repeat (first | apply Kd.V_alloc | apply Kd.V_drewN | apply Kd.V_drew)); exact HO_130004.out) (Kd.R_base ho0) hb)
            have n2_ := Aside0.mk (Kd.R_elder' (by (with_reducible repeat (first | apply Kd.R_alloc | apply Kd.R_drewN | apply Kd.R_drew)); exact HO_132004.out) (Kd.R_base ho0) hb)
            have n3_ := Aside0.mk (Kd.V_elder' (by (with_reducible repeat (first | apply Kd.V_alloc | apply Kd.V_drewN | apply Kd.V_drew)); exact HO137.out) (Kd.R_base ho0) hb)
            have n4_ := Aside0.mk (Kd.V_elder' (by (with_reducible repeat (first | apply Kd.V_alloc | apply Kd.V_drewN | apply Kd.V_drew)); exact HO143.out) (Kd.R_base ho0) hb)
            have n5_ := Aside0.mk (Kd.V_elder' (by (with_reducible repeat (first | apply Kd.V_alloc | apply Kd.V_drewN | apply Kd.V_drew)); exact HO149.out) (Kd.R_base ho0) hb)
            have n6_ := Aside0.mk (Kd.V_elder' (by (with_reducible repeat (first | apply Kd.V_alloc | apply Kd.V_drewN | apply Kd.V_drew)); exact HO154.out) (Kd.R_base ho0) hb)
            have n7_ := Aside0.mk (Kd.V_elder' (by (with_reducible repeat (first | apply Kd.V_alloc | apply Kd.V_drewN | apply Kd.V_drew)); exact HO165.out) (Kd.R_base ho0) hb)
            have n8_ := Aside0.mk (Kd.R_elder' (by (with_reducible repeat (first | apply Kd.R_alloc | apply Kd.R_drewN | apply Kd.R_drew)); exact HO157.out) (Kd.R_base ho0) hb)
            have n9_ := Aside0.mk (Kd.R_lower (Kd.R_new' (Kd.R_new' (Kd.R_newM (M := fun k_ => (w.heap.size ≤ k_)) ho0 (below_size (by repeat (first | (with_reducible first | exact HB.out | apply below_alloc | apply pw_below_drewN | apply below_drew1 | refine below_set ?_ GE129.out | refine below_set ?_ GE130.out | refine below_set ?_ GE131.out) | exact HB.out))) (fun k_ h_ => h_)) (Kd.R_lt (by (with_reducible repeat (first | apply Kd.R_alloc | apply Kd.R_drewN | apply Kd.R_drew)); exact HO_132004.out))) (Kd.R_lt (by (with_reducible repeat (first | apply Kd.R_alloc | apply Kd.R_drewN | apply Kd.R_drew)); exact HO157.out))) (below_size (by repeat (first | (with_reducible first | exact HB.out | apply below_alloc | apply pw_below_drewN | apply below_drew1 | refine below_set ?_ GE129.out | refine below_set ?_ GE130.out | refine below_set ?_ GE131.out) | exact HB.out))))
            have n10_ := Aside0.mk (blk_below (g := gb129) (o := .cells #[.int .i64 a0_0, .int .i64 a0_1, .int .i64 a0_2, .int .i64 a0_3, .slice A0_4 l0_4.length c0_4] 41 (0, 0)) (by (with_reducible repeat (first | refine blk_drewN ?_ _ | refine blk_drew ?_ | refine blk_alloc ?_ _)); exact BK129.out) hb)
            have n11_ := Aside0.mk (blk_below (g := gb130) (o := .cells #[.int .i64 0, .int .i64 0, .int .i64 0, .int .i64 0, .slice none 0 0] 41 (0, 0)) (by (with_reducible repeat (first | refine blk_drewN ?_ _ | refine blk_drew ?_ | refine blk_alloc ?_ _)); exact BK130.out) hb)
            have n12_ := Aside0.mk (blk_below (g := gb131) (o := .cells #[.int .i64 a0_2, .int .i64 a0_3, .int .i64 a0_0, .int .i64 a0_1, u132004] 41 (0, 0)) (by (with_reducible repeat (first | refine blk_drewN ?_ _ | refine blk_drew ?_ | refine blk_alloc ?_ _)); exact BK131.out) hb)
            have n13_ := Aside0.mk (below_step (by repeat (first | (with_reducible first | exact HB.out | apply below_alloc | apply pw_below_drewN | apply below_drew1 | refine below_set ?_ GE129.out | refine below_set ?_ GE130.out | refine below_set ?_ GE131.out) | exact HB.out)) hb)
            clear HO_4
            clear HO_130004
            clear HO_132004
            clear HO137
            clear HO143
            clear HO149
            clear HO154
            clear HO165
            clear HO157
            clear BK129
            clear BK130
            clear BK131
            clear HB
            have HO_4 := n0_
            have HO_130004 := n1_
            have HO_132004 := n2_
            have HO137 := n3_
            have HO143 := n4_
            have HO149 := n5_
            have HO154 := n6_
            have HO165 := n7_
            have HO157 := n8_
            have HO160 := n9_
            have BK129 := n10_
            have BK130 := n11_
            have BK131 := n12_
            have HB := n13_
            clear n0_ n1_ n2_ n3_ n4_ n5_ n6_ n7_ n8_ n9_ n10_ n11_ n12_ n13_
            (try clear hb)
            (try clear hb2)
            (try clear hk)
            (try clear hi)
            (try clear ho0)
            refine hK.out _ _ ⟨(blk_cell BK131.out 0).trans rfl, (blk_cell BK131.out 1).trans rfl, (blk_cell BK131.out 2).trans rfl, (blk_cell BK131.out 3).trans rfl, (blk_cell BK131.out 4).trans rfl⟩ (fun hHeld => ?_)
            clear hK K
            refine norm_ (a' := ?_) ?_ ?_
            rotate_left
            ·show Act.put _ (some 46) _ = _
             simp only [Act.put, List.setIfInBounds_toArray, List.set_cons_zero, List.set_cons_succ, i64_w, i32_w]
             rfl
            refine one_ (i := 15) (N := some 51) #[true, true, true, true, true, true, true, true, true, true, true, true, true, true, true, true, false, false, false, false, false] rfl rfl (one_of HT_.out (by kernel_rfl)) (by decide) (fun K hK => ?_)
            refine goes_ Try.func41 (by kernel_rfl) rfl #[.slice A42 y161.length c42] (by rfl) rfl rfl (by (try simp only [List.map_toArray, List.map_cons, List.map_nil]); first | done | rfl | (simp only [List.length_drop, List.length_take]; rfl)) ?_
            with_reducible refine (hunk_bare.calls k1 _ _ y161 t166 _ ?side1 ?side2 A30.out).mono ?_
            (case side1 => repeat (first | exact (Kd.V_reads' HO165.out).2.2 | (with_reducible refine Kd.C_alloc ?_ _) | (with_reducible refine Kd.C_drewN ?_ _) | (with_reducible refine Kd.C_drew ?_)))
            (case side2 => exact (Kd.V_reads' HO165.out).2.1)
            rintro e w46 ⟨v167, rfl, ho0, hb⟩
            refine ⟨_, rfl, ?_⟩
            have n0_ := Aside0.mk (Kd.V_elder' (by (with_reducible repeat (first | apply Kd.V_alloc | apply Kd.V_drewN | apply Kd.V_drew)); exact HO_4.out) (Kd.R_base ho0) hb)
            have n1_ := Aside0.mk (Kd.V_elder' (by (with_reducible repeat (first | apply Kd.V_alloc | apply Kd.V_drewN | apply Kd.V_drew)); exact HO_130004.out) (Kd.R_base ho0) hb)
            have n2_ := Aside0.mk (Kd.R_elder' (by (with_reducible repeat (first | apply Kd.R_alloc | apply Kd.R_drewN | apply Kd.R_drew)); exact HO_132004.out) (Kd.R_base ho0) hb)
            have n3_ := Aside0.mk (Kd.V_elder' (by (with_reducible repeat (first | apply Kd.V_alloc | apply Kd.V_drewN | apply Kd.V_drew)); exact HO137.out) (Kd.R_base ho0) hb)
            have n4_ := Aside0.mk (Kd.V_elder' (by (with_reducible repeat (first | apply Kd.V_alloc | apply Kd.V_drewN | apply Kd.V_drew)); exact HO143.out) (Kd.R_base ho0) hb)
            have n5_ := Aside0.mk (Kd.V_elder' (by (with_reducible repeat (first | apply Kd.V_alloc | apply Kd.V_drewN | apply Kd.V_drew)); exact HO149.out) (Kd.R_base ho0) hb)
            have n6_ := Aside0.mk (Kd.V_elder' (by (with_reducible repeat (first | apply Kd.V_alloc | apply Kd.V_drewN | apply Kd.V_drew)); exact HO154.out) (Kd.R_base ho0) hb)
            have n7_ := Aside0.mk (Kd.V_elder' (by (with_reducible repeat (first | apply Kd.V_alloc | apply Kd.V_drewN | apply Kd.V_drew)); exact HO165.out) (Kd.R_base ho0) hb)
            have n8_ := Aside0.mk (Kd.R_elder' (by (with_reducible repeat (first | apply Kd.R_alloc | apply Kd.R_drewN | apply Kd.R_drew)); exact HO157.out) (Kd.R_base ho0) hb)
            have n9_ := Aside0.mk (Kd.R_elder' (by (with_reducible repeat (first | apply Kd.R_alloc | apply Kd.R_drewN | apply Kd.R_drew)); exact HO160.out) (Kd.R_base ho0) hb)
            have n10_ := Aside0.mk (Kd.R_lower (Kd.R_new' (Kd.R_new' (Kd.R_new' (Kd.R_newM (M := fun k_ => (w.heap.size ≤ k_)) ho0 (below_size (by repeat (first | (with_reducible first | exact HB.out | apply below_alloc | apply pw_below_drewN | apply below_drew1 | refine below_set ?_ GE129.out | refine below_set ?_ GE130.out | refine below_set ?_ GE131.out) | exact HB.out))) (fun k_ h_ => h_)) (Kd.R_lt (by (with_reducible repeat (first | apply Kd.R_alloc | apply Kd.R_drewN | apply Kd.R_drew)); exact HO_132004.out))) (Kd.R_lt (by (with_reducible repeat (first | apply Kd.R_alloc | apply Kd.R_drewN | apply Kd.R_drew)); exact HO157.out))) (Kd.R_lt (by (with_reducible repeat (first | apply Kd.R_alloc | apply Kd.R_drewN | apply Kd.R_drew)); exact HO160.out))) (below_size (by repeat (first | (with_reducible first | exact HB.out | apply below_alloc | apply pw_below_drewN | apply below_drew1 | refine below_set ?_ GE129.out | refine below_set ?_ GE130.out | refine below_set ?_ GE131.out) | exact HB.out))))
            have n11_ := Aside0.mk (blk_below (g := gb129) (o := .cells #[.int .i64 a0_0, .int .i64 a0_1, .int .i64 a0_2, .int .i64 a0_3, .slice A0_4 l0_4.length c0_4] 41 (0, 0)) (by (with_reducible repeat (first | refine blk_drewN ?_ _ | refine blk_drew ?_ | refine blk_alloc ?_ _)); exact BK129.out) hb)
            have n12_ := Aside0.mk (blk_below (g := gb130) (o := .cells #[.int .i64 0, .int .i64 0, .int .i64 0, .int .i64 0, .slice none 0 0] 41 (0, 0)) (by (with_reducible repeat (first | refine blk_drewN ?_ _ | refine blk_drew ?_ | refine blk_alloc ?_ _)); exact BK130.out) hb)
            have n13_ := Aside0.mk (blk_below (g := gb131) (o := .cells #[.int .i64 a0_2, .int .i64 a0_3, .int .i64 a0_0, .int .i64 a0_1, u132004] 41 (0, 0)) (by (with_reducible repeat (first | refine blk_drewN ?_ _ | refine blk_drew ?_ | refine blk_alloc ?_ _)); exact BK131.out) hb)
            have n14_ := Aside0.mk (below_step (by repeat (first | (with_reducible first | exact HB.out | apply below_alloc | apply pw_below_drewN | apply below_drew1 | refine below_set ?_ GE129.out | refine below_set ?_ GE130.out | refine below_set ?_ GE131.out) | exact HB.out)) hb)
            clear HO_4
            clear HO_130004
            clear HO_132004
            clear HO137
            clear HO143
            clear HO149
            clear HO154
            clear HO165
            clear HO157
            clear HO160
            clear BK129
            clear BK130
            clear BK131
            clear HB
            have HO_4 := n0_
            have HO_130004 := n1_
            have HO_132004 := n2_
            have HO137 := n3_
            have HO143 := n4_
            have HO149 := n5_
            have HO154 := n6_
            have HO165 := n7_
            have HO157 := n8_
            have HO160 := n9_
            have HO168 := n10_
            have BK129 := n11_
            have BK130 := n12_
            have BK131 := n13_
            have HB := n14_
            clear n0_ n1_ n2_ n3_ n4_ n5_ n6_ n7_ n8_ n9_ n10_ n11_ n12_ n13_ n14_
            (try clear hb)
            (try clear hb2)
            (try clear hk)
            (try clear hi)
            (try clear ho0)
            obtain ⟨Ao47, co47, eo47⟩ := Kd.R_slice HO168.out
            (first | subst eo47 | (injection eo47 with f1_ f2_ f3_; have f4_ := f1_.symm; have f5_ := f3_.symm; clear f1_ f2_ f3_; subst f4_; subst f5_))
            refine hK.out _ _ ⟨(blk_cell BK131.out 0).trans rfl, (blk_cell BK131.out 1).trans rfl, (blk_cell BK131.out 2).trans rfl, (blk_cell BK131.out 3).trans rfl, (blk_cell BK131.out 4).trans rfl⟩ (fun hHeld => ?_)
            clear hK K
            refine norm_ (a' := ?_) ?_ ?_
            rotate_left
            ·show Act.put _ (some 51) _ = _
             simp only [Act.put, List.setIfInBounds_toArray, List.set_cons_zero, List.set_cons_succ, i64_w, i32_w]
             rfl
            refine one_ (i := 16) (N := some 52) #[true, true, true, true, true, true, true, true, true, true, true, true, true, true, true, true, true, false, false, false, false] rfl rfl (one_of HT_.out (by kernel_rfl)) (by decide) (fun K hK => ?_)
            refine goes_ Try.func40 (by kernel_rfl) rfl #[.int .u8 43, .slice Ao47 t166.length co47] (by rfl) rfl rfl (by (try simp only [List.map_toArray, List.map_cons, List.map_nil]); first | done | rfl | (simp only [List.length_drop, List.length_take]; rfl)) ?_
            with_reducible refine (hunk_signed.calls k1 43 _ _ t166 t169 _ ?side1 ?side2 A31.out).mono ?_
            (case side1 => repeat (first | exact (Kd.R_reads' HO168.out).2.2 | (with_reducible refine Kd.C_alloc ?_ _) | (with_reducible refine Kd.C_drewN ?_ _) | (with_reducible refine Kd.C_drew ?_)))
            (case side2 => exact (Kd.R_reads' HO168.out).2.1)
            rintro e w48 ⟨v170, rfl, ho0, hb⟩
            refine ⟨_, rfl, ?_⟩
            have n0_ := Aside0.mk (Kd.V_elder' (by (with_reducible repeat (first | apply Kd.V_alloc | apply Kd.V_drewN | apply Kd.V_drew)); exact HO_4.out) (Kd.R_base ho0) hb)
            have n1_ := Aside0.mk (Kd.V_elder' (by (with_reducible repeat (first | apply Kd.V_alloc | apply Kd.V_drewN | apply Kd.V_drew)); exact HO_130004.out) (Kd.R_base ho0) hb)
            have n2_ := Aside0.mk (Kd.R_elder' (by (with_reducible repeat (first | apply Kd.R_alloc | apply Kd.R_drewN | apply Kd.R_drew)); exact HO_132004.out) (Kd.R_base ho0) hb)
            have n3_ := Aside0.mk (Kd.V_elder' (by (with_reducible repeat (first | apply Kd.V_alloc | apply Kd.V_drewN | apply Kd.V_drew)); exact HO137.out) (Kd.R_base ho0) hb)
            have n4_ := Aside0.mk (Kd.V_elder' (by (with_reducible repeat (first | apply Kd.V_alloc | apply Kd.V_drewN | apply Kd.V_drew)); exact HO143.out) (Kd.R_base ho0) hb)
            have n5_ := Aside0.mk (Kd.V_elder' (by (with_reducible repeat (first | apply Kd.V_alloc | apply Kd.V_drewN | apply Kd.V_drew)); exact HO149.out) (Kd.R_base ho0) hb)
            have n6_ := Aside0.mk (Kd.V_elder' (by (with_reducible repeat (first | apply Kd.V_alloc | apply Kd.V_drewN | apply Kd.V_drew)); exact HO154.out) (Kd.R_base ho0) hb)
            have n7_ := Aside0.mk (Kd.V_elder' (by (with_reducible repeat (first | apply Kd.V_alloc | apply Kd.V_drewN | apply Kd.V_drew)); exact HO165.out) (Kd.R_base ho0) hb)
            have n8_ := Aside0.mk (Kd.R_elder' (by (with_reducible repeat (first | apply Kd.R_alloc | apply Kd.R_drewN | apply Kd.R_drew)); exact HO157.out) (Kd.R_base ho0) hb)
            have n9_ := Aside0.mk (Kd.R_elder' (by (with_reducible repeat (first | apply Kd.R_alloc | apply Kd.R_drewN | apply Kd.R_drew)); exact HO160.out) (Kd.R_base ho0) hb)
            have n10_ := Aside0.mk (Kd.R_elder' (by (with_reducible repeat (first | apply Kd.R_alloc | apply Kd.R_drewN | apply Kd.R_drew)); exact HO168.out) (Kd.R_base ho0) hb)
            have n11_ := Aside0.mk (Kd.R_lower (Kd.R_new' (Kd.R_new' (Kd.R_new' (Kd.R_new' (Kd.R_newM (M := fun k_ => (w.heap.size ≤ k_)) ho0 (below_size (by repeat (first | (with_reducible first | exact HB.out | apply below_alloc | apply pw_below_drewN | apply below_drew1 | refine below_set ?_ GE129.out | refine below_set ?_ GE130.out | refine below_set ?_ GE131.out) | exact HB.out))) (fun k_ h_ => h_)) (Kd.R_lt (by (with_reducible repeat (first | apply Kd.R_alloc | apply Kd.R_drewN | apply Kd.R_drew)); exact HO_132004.out))) (Kd.R_lt (by (with_reducible repeat (first | apply Kd.R_alloc | apply Kd.R_drewN | apply Kd.R_drew)); exact HO157.out))) (Kd.R_lt (by (with_reducible repeat (first | apply Kd.R_alloc | apply Kd.R_drewN | apply Kd.R_drew)); exact HO160.out))) (Kd.R_lt (by (with_reducible repeat (first | apply Kd.R_alloc | apply Kd.R_drewN | apply Kd.R_drew)); exact HO168.out))) (below_size (by repeat (first | (with_reducible first | exact HB.out | apply below_alloc | apply pw_below_drewN | apply below_drew1 | refine below_set ?_ GE129.out | refine below_set ?_ GE130.out | refine below_set ?_ GE131.out) | exact HB.out))))
            have n12_ := Aside0.mk (blk_below (g := gb129) (o := .cells #[.int .i64 a0_0, .int .i64 a0_1, .int .i64 a0_2, .int .i64 a0_3, .slice A0_4 l0_4.length c0_4] 41 (0, 0)) (by (with_reducible repeat (first | refine blk_drewN ?_ _ | refine blk_drew ?_ | refine blk_alloc ?_ _)); exact BK129.out) hb)
            have n13_ := Aside0.mk (blk_below (g := gb130) (o := .cells #[.int .i64 0, .int .i64 0, .int .i64 0, .int .i64 0, .slice none 0 0] 41 (0, 0)) (by (with_reducible repeat (first | refine blk_drewN ?_ _ | refine blk_drew ?_ | refine blk_alloc ?_ _)); exact BK130.out) hb)
            have n14_ := Aside0.mk (blk_below (g := gb131) (o := .cells #[.int .i64 a0_2, .int .i64 a0_3, .int .i64 a0_0, .int .i64 a0_1, u132004] 41 (0, 0)) (by (with_reducible repeat (first | refine blk_drewN ?_ _ | refine blk_drew ?_ | refine blk_alloc ?_ _)); exact BK131.out) hb)
            have n15_ := Aside0.mk (below_step (by repeat (first | (with_reducible first | exact HB.out | apply below_alloc | apply pw_below_drewN | apply below_drew1 | refine below_set ?_ GE129.out | refine below_set ?_ GE130.out | refine below_set ?_ GE131.out) | exact HB.out)) hb)
            clear HO_4
            clear HO_130004
            clear HO_132004
            clear HO137
            clear HO143
            clear HO149
            clear HO154
            clear HO165
            clear HO157
            clear HO160
            clear HO168
            clear BK129
            clear BK130
            clear BK131
            clear HB
            have HO_4 := n0_
            have HO_130004 := n1_
            have HO_132004 := n2_
            have HO137 := n3_
            have HO143 := n4_
            have HO149 := n5_
            have HO154 := n6_
            have HO165 := n7_
            have HO157 := n8_
            have HO160 := n9_
            have HO168 := n10_
            have HO171 := n11_
            have BK129 := n12_
            have BK130 := n13_
            have BK131 := n14_
            have HB := n15_
            clear n0_ n1_ n2_ n3_ n4_ n5_ n6_ n7_ n8_ n9_ n10_ n11_ n12_ n13_ n14_ n15_
            (try clear hb)
            (try clear hb2)
            (try clear hk)
            (try clear hi)
            (try clear ho0)
            obtain ⟨Ao49, co49, eo49⟩ := Kd.R_slice HO_132004.out
            (first | subst eo49 | (injection eo49 with f1_ f2_ f3_; have f4_ := f1_.symm; have f5_ := f3_.symm; clear f1_ f2_ f3_; subst f4_; subst f5_))
            obtain ⟨Ao50, co50, eo50⟩ := Kd.R_slice HO160.out
            (first | subst eo50 | (injection eo50 with f1_ f2_ f3_; have f4_ := f1_.symm; have f5_ := f3_.symm; clear f1_ f2_ f3_; subst f4_; subst f5_))
            obtain ⟨Ao51, co51, eo51⟩ := Kd.R_slice HO171.out
            (first | subst eo51 | (injection eo51 with f1_ f2_ f3_; have f4_ := f1_.symm; have f5_ := f3_.symm; clear f1_ f2_ f3_; subst f4_; subst f5_))
            refine hK.out _ _ ⟨(blk_cell BK131.out 0).trans rfl, (blk_cell BK131.out 1).trans rfl, (blk_cell BK131.out 2).trans rfl, (blk_cell BK131.out 3).trans rfl, (blk_cell BK131.out 4).trans rfl⟩ (fun hHeld => ?_)
            clear hK K
            refine norm_ (a' := ?_) ?_ ?_
            rotate_left
            ·show Act.put _ (some 52) _ = _
             simp only [Act.put, List.setIfInBounds_toArray, List.set_cons_zero, List.set_cons_succ, i64_w, i32_w]
             rfl
            refine one_ (i := 17) (N := some 53) #[true, true, true, true, true, true, true, true, true, true, true, true, true, true, true, true, true, true, false, false, false] rfl rfl (one_of HT_.out (by kernel_rfl)) (by decide) (fun K hK => ?_)
            refine Kd.N_lit_step (Kd.slice 9 Kd.string) _ 22 ?hg (N' := 53) ?hd (xs := ([x132004_1, y145, t158, t169] : List (List ByteArray))) (inner := [.slice Ao49 x132004_1.length co49, .slice Ao36 y145.length co36, .slice Ao50 t158.length co50, .slice Ao51 t169.length co51]) (ok := (fun k_ => (P0_4_ k_ ∨ w.heap.size ≤ k_) ∧ some k_ ≠ (.slice Ao44 t155.length co44 : Value).ownBlock ∧ some k_ ≠ (.slice Ao47 t166.length co47 : Value).ownBlock ∧ k_ ≠ gb129 ∧ k_ ≠ gb130 ∧ k_ ≠ gb131)) (okp := (fun k_ => (P0_4_ k_ ∨ w.heap.size ≤ k_) ∧ some k_ ≠ (.slice Ao44 t155.length co44 : Value).ownBlock ∧ some k_ ≠ (.slice Ao47 t166.length co47 : Value).ownBlock ∧ k_ ≠ gb129 ∧ k_ ≠ gb130 ∧ k_ ≠ gb131)) ?hr ?hp (fun _ hk => hk) ((show ∀ k_, w48.heap.size ≤ k_ → (fun k_ => (P0_4_ k_ ∨ w.heap.size ≤ k_) ∧ some k_ ≠ (.slice Ao44 t155.length co44 : Value).ownBlock ∧ some k_ ≠ (.slice Ao47 t166.length co47 : Value).ownBlock ∧ k_ ≠ gb129 ∧ k_ ≠ gb130 ∧ k_ ≠ gb131) k_ from fun k_ hk => ⟨(.inr (Nat.le_trans (below_size (by repeat (first | (with_reducible first | exact HB.out | apply below_alloc | apply pw_below_drewN | apply below_drew1 | refine below_set ?_ GE129.out | refine below_set ?_ GE130.out | refine below_set ?_ GE131.out) | exact HB.out))) hk)), Kd.fresh' (Kd.R_lt (by (with_reducible repeat (first | apply Kd.R_alloc | apply Kd.R_drewN | apply Kd.R_drew)); exact HO157.out)) k_ hk, Kd.fresh' (Kd.R_lt (by (with_reducible repeat (first | apply Kd.R_alloc | apply Kd.R_drewN | apply Kd.R_drew)); exact HO168.out)) k_ hk, Kd.freshB (g := gb129) (o := .cells #[.int .i64 a0_0, .int .i64 a0_1, .int .i64 a0_2, .int .i64 a0_3, .slice A0_4 l0_4.length c0_4] 41 (0, 0)) (by (with_reducible repeat (first | refine blk_drewN ?_ _ | refine blk_drew ?_ | refine blk_alloc ?_ _)); exact BK129.out) k_ hk, Kd.freshB (g := gb130) (o := .cells #[.int .i64 0, .int .i64 0, .int .i64 0, .int .i64 0, .slice none 0 0] 41 (0, 0)) (by (with_reducible repeat (first | refine blk_drewN ?_ _ | refine blk_drew ?_ | refine blk_alloc ?_ _)); exact BK130.out) k_ hk, Kd.freshB (g := gb131) (o := .cells #[.int .i64 a0_2, .int .i64 a0_3, .int .i64 a0_0, .int .i64 a0_1, .slice Ao49 x132004_1.length co49] 41 (0, 0)) (by (with_reducible repeat (first | refine blk_drewN ?_ _ | refine blk_drew ?_ | refine blk_alloc ?_ _)); exact BK131.out) k_ hk⟩) _ (Nat.le_refl _)) (Below.refl _ _) (Nat.le_refl _) (by simp) ?_; (case hd => rfl); (case hg => rfl); (case hr => first | (go_simp; done) | (go_simp; rfl)); (case hp => exact (Reps.one (show Kd.FK (Kd.slice 9 Kd.string) _ _ x132004_1 [.slice Ao49 x132004_1.length co49] from (Kd.FK_slice_mk (Kd.R_reads' (Kd.R_mono (ok' := (fun k_ => (P0_4_ k_ ∨ w.heap.size ≤ k_) ∧ some k_ ≠ (.slice Ao44 t155.length co44 : Value).ownBlock ∧ some k_ ≠ (.slice Ao47 t166.length co47 : Value).ownBlock ∧ k_ ≠ gb129 ∧ k_ ≠ gb130 ∧ k_ ≠ gb131)) (Kd.R_types (Kd.R_types (Kd.R_types (HO_132004.out) BK129.out (by decide)) BK130.out (by decide)) BK131.out (by decide)) (fun k_ hk => ⟨(.inr (hk.1.1.1.1.1.1.1)), ⟨hk.1.1.1.1.1.1.2, ⟨hk.1.1.1.1.2, ⟨hk.1.1.2, ⟨hk.1.2, hk.2⟩⟩⟩⟩⟩))).2.1 (Kd.R_F (Kd.R_mono (ok' := (fun k_ => (P0_4_ k_ ∨ w.heap.size ≤ k_) ∧ some k_ ≠ (.slice Ao44 t155.length co44 : Value).ownBlock ∧ some k_ ≠ (.slice Ao47 t166.length co47 : Value).ownBlock ∧ k_ ≠ gb129 ∧ k_ ≠ gb130 ∧ k_ ≠ gb131)) (Kd.R_types (Kd.R_types (Kd.R_types (HO_132004.out) BK129.out (by decide)) BK130.out (by decide)) BK131.out (by decide)) (fun k_ hk => ⟨(.inr (hk.1.1.1.1.1.1.1)), ⟨hk.1.1.1.1.1.1.2, ⟨hk.1.1.1.1.2, ⟨hk.1.1.2, ⟨hk.1.2, hk.2⟩⟩⟩⟩⟩))))) (Reps.one (show Kd.FK (Kd.slice 9 Kd.string) _ _ y145 [.slice Ao36 y145.length co36] from (Kd.FK_slice_mk (Kd.V_reads' (Kd.V_mono (ok' := (fun k_ => (P0_4_ k_ ∨ w.heap.size ≤ k_) ∧ some k_ ≠ (.slice Ao44 t155.length co44 : Value).ownBlock ∧ some k_ ≠ (.slice Ao47 t166.length co47 : Value).ownBlock ∧ k_ ≠ gb129 ∧ k_ ≠ gb130 ∧ k_ ≠ gb131)) (HO149.out) (fun k_ hk => ⟨hk.1.1.1.1.1, ⟨hk.1.1.1.2, ⟨hk.1.2, ⟨hk.1.1.1.1.2.2.1, ⟨hk.1.1.1.1.2.2.2.1, hk.1.1.1.1.2.2.2.2⟩⟩⟩⟩⟩))).2.1 (Kd.V_F (Kd.V_mono (ok' := (fun k_ => (P0_4_ k_ ∨ w.heap.size ≤ k_) ∧ some k_ ≠ (.slice Ao44 t155.length co44 : Value).ownBlock ∧ some k_ ≠ (.slice Ao47 t166.length co47 : Value).ownBlock ∧ k_ ≠ gb129 ∧ k_ ≠ gb130 ∧ k_ ≠ gb131)) (HO149.out) (fun k_ hk => ⟨hk.1.1.1.1.1, ⟨hk.1.1.1.2, ⟨hk.1.2, ⟨hk.1.1.1.1.2.2.1, ⟨hk.1.1.1.1.2.2.2.1, hk.1.1.1.1.2.2.2.2⟩⟩⟩⟩⟩))))) (Reps.one (show Kd.FK (Kd.slice 9 Kd.string) _ _ t158 [.slice Ao50 t158.length co50] from (Kd.FK_slice_mk (Kd.R_reads' (Kd.R_mono (ok' := (fun k_ => (P0_4_ k_ ∨ w.heap.size ≤ k_) ∧ some k_ ≠ (.slice Ao44 t155.length co44 : Value).ownBlock ∧ some k_ ≠ (.slice Ao47 t166.length co47 : Value).ownBlock ∧ k_ ≠ gb129 ∧ k_ ≠ gb130 ∧ k_ ≠ gb131)) (Kd.R_types (Kd.R_types (Kd.R_types (HO160.out) BK129.out (by decide)) BK130.out (by decide)) BK131.out (by decide)) (fun k_ hk => ⟨(.inr (hk.1.1.1.1.1.1.1.1)), ⟨hk.1.1.1.1.1.2, ⟨hk.1.1.1.1.2, ⟨hk.1.1.2, ⟨hk.1.2, hk.2⟩⟩⟩⟩⟩))).2.1 (Kd.R_F (Kd.R_mono (ok' := (fun k_ => (P0_4_ k_ ∨ w.heap.size ≤ k_) ∧ some k_ ≠ (.slice Ao44 t155.length co44 : Value).ownBlock ∧ some k_ ≠ (.slice Ao47 t166.length co47 : Value).ownBlock ∧ k_ ≠ gb129 ∧ k_ ≠ gb130 ∧ k_ ≠ gb131)) (Kd.R_types (Kd.R_types (Kd.R_types (HO160.out) BK129.out (by decide)) BK130.out (by decide)) BK131.out (by decide)) (fun k_ hk => ⟨(.inr (hk.1.1.1.1.1.1.1.1)), ⟨hk.1.1.1.1.1.2, ⟨hk.1.1.1.1.2, ⟨hk.1.1.2, ⟨hk.1.2, hk.2⟩⟩⟩⟩⟩))))) (Reps.one (show Kd.FK (Kd.slice 9 Kd.string) _ _ t169 [.slice Ao51 t169.length co51] from (Kd.FK_slice_mk (Kd.R_reads' (Kd.R_mono (ok' := (fun k_ => (P0_4_ k_ ∨ w.heap.size ≤ k_) ∧ some k_ ≠ (.slice Ao44 t155.length co44 : Value).ownBlock ∧ some k_ ≠ (.slice Ao47 t166.length co47 : Value).ownBlock ∧ k_ ≠ gb129 ∧ k_ ≠ gb130 ∧ k_ ≠ gb131)) (Kd.R_types (Kd.R_types (Kd.R_types (HO171.out) BK129.out (by decide)) BK130.out (by decide)) BK131.out (by decide)) (fun k_ hk => ⟨(.inr (hk.1.1.1.1.1.1.1.1)), ⟨hk.1.1.1.1.1.2, ⟨hk.1.1.1.2, ⟨hk.1.1.2, ⟨hk.1.2, hk.2⟩⟩⟩⟩⟩))).2.1 (Kd.R_F (Kd.R_mono (ok' := (fun k_ => (P0_4_ k_ ∨ w.heap.size ≤ k_) ∧ some k_ ≠ (.slice Ao44 t155.length co44 : Value).ownBlock ∧ some k_ ≠ (.slice Ao47 t166.length co47 : Value).ownBlock ∧ k_ ≠ gb129 ∧ k_ ≠ gb130 ∧ k_ ≠ gb131)) (Kd.R_types (Kd.R_types (Kd.R_types (HO171.out) BK129.out (by decide)) BK130.out (by decide)) BK131.out (by decide)) (fun k_ hk => ⟨(.inr (hk.1.1.1.1.1.1.1.1)), ⟨hk.1.1.1.1.1.2, ⟨hk.1.1.1.2, ⟨hk.1.1.2, ⟨hk.1.2, hk.2⟩⟩⟩⟩⟩))))) (Reps.none _ _))))))
            intro v173 w52 ho53 hb hg_ hnew_
            clear hg_ hnew_
            (first | rw [← Ny172.out] at ho53 | (simp only [Int.reduceToNat] at ho53; rw [← Ny172.out] at ho53))
            have n0_ := Aside0.mk (Kd.V_elder' (by (with_reducible repeat (first | apply Kd.V_alloc | apply Kd.V_drewN | apply Kd.V_drew)); exact HO_4.out) (by first | exact Kd.N_base ho53 | exact Kd.S_base ho53) hb)
            have n1_ := Aside0.mk (Kd.V_elder' (by (with_reducible repeat (first | apply Kd.V_alloc | apply Kd.V_drewN | apply Kd.V_drew)); exact HO_130004.out) (by first | exact Kd.N_base ho53 | exact Kd.S_base ho53) hb)
            have n2_ := Aside0.mk (Kd.V_elder' (by (with_reducible repeat (first | apply Kd.V_alloc | apply Kd.V_drewN | apply Kd.V_drew)); exact HO137.out) (by first | exact Kd.N_base ho53 | exact Kd.S_base ho53) hb)
            have n3_ := Aside0.mk (Kd.V_elder' (by (with_reducible repeat (first | apply Kd.V_alloc | apply Kd.V_drewN | apply Kd.V_drew)); exact HO143.out) (by first | exact Kd.N_base ho53 | exact Kd.S_base ho53) hb)
            have n4_ := Aside0.mk (Kd.V_elder' (by (with_reducible repeat (first | apply Kd.V_alloc | apply Kd.V_drewN | apply Kd.V_drew)); exact HO149.out) (by first | exact Kd.N_base ho53 | exact Kd.S_base ho53) hb)
            have n5_ := Aside0.mk (Kd.V_elder' (by (with_reducible repeat (first | apply Kd.V_alloc | apply Kd.V_drewN | apply Kd.V_drew)); exact HO154.out) (by first | exact Kd.N_base ho53 | exact Kd.S_base ho53) hb)
            have n6_ := Aside0.mk (Kd.V_elder' (by (with_reducible repeat (first | apply Kd.V_alloc | apply Kd.V_drewN | apply Kd.V_drew)); exact HO165.out) (by first | exact Kd.N_base ho53 | exact Kd.S_base ho53) hb)
            have n7_ := Aside0.mk (Kd.R_below (by (with_reducible repeat (first | apply Kd.R_alloc | apply Kd.R_drewN | apply Kd.R_drew)); exact HO157.out) hb)
            have n8_ := Aside0.mk (Kd.R_below (by (with_reducible repeat (first | apply Kd.R_alloc | apply Kd.R_drewN | apply Kd.R_drew)); exact HO168.out) hb)
            have n9_ := Aside0.mk (Kd.N_lower ho53 (below_size (by repeat (first | (with_reducible first | exact HB.out | apply below_alloc | apply pw_below_drewN | apply below_drew1 | refine below_set ?_ GE129.out | refine below_set ?_ GE130.out | refine below_set ?_ GE131.out) | exact HB.out))))
            have n10_ := Aside0.mk (blk_below (g := gb129) (o := .cells #[.int .i64 a0_0, .int .i64 a0_1, .int .i64 a0_2, .int .i64 a0_3, .slice A0_4 l0_4.length c0_4] 41 (0, 0)) (by (with_reducible repeat (first | refine blk_drewN ?_ _ | refine blk_drew ?_ | refine blk_alloc ?_ _)); exact BK129.out) hb)
            have n11_ := Aside0.mk (blk_below (g := gb130) (o := .cells #[.int .i64 0, .int .i64 0, .int .i64 0, .int .i64 0, .slice none 0 0] 41 (0, 0)) (by (with_reducible repeat (first | refine blk_drewN ?_ _ | refine blk_drew ?_ | refine blk_alloc ?_ _)); exact BK130.out) hb)
            have n12_ := Aside0.mk (blk_below (g := gb131) (o := .cells #[.int .i64 a0_2, .int .i64 a0_3, .int .i64 a0_0, .int .i64 a0_1, .slice Ao49 x132004_1.length co49] 41 (0, 0)) (by (with_reducible repeat (first | refine blk_drewN ?_ _ | refine blk_drew ?_ | refine blk_alloc ?_ _)); exact BK131.out) hb)
            have n13_ := Aside0.mk (below_step (by repeat (first | (with_reducible first | exact HB.out | apply below_alloc | apply pw_below_drewN | apply below_drew1 | refine below_set ?_ GE129.out | refine below_set ?_ GE130.out | refine below_set ?_ GE131.out) | exact HB.out)) hb)
            clear HO_4
            clear HO_130004
            clear HO137
            clear HO143
            clear HO149
            clear HO154
            clear HO165
            clear HO157
            clear HO168
            clear BK129
            clear BK130
            clear BK131
            clear HB
            clear HO160
            clear HO171
            clear HO_132004
            have HO_4 := n0_
            have HO_130004 := n1_
            have HO137 := n2_
            have HO143 := n3_
            have HO149 := n4_
            have HO154 := n5_
            have HO165 := n6_
            have HO157 := n7_
            have HO168 := n8_
            have HO174 := n9_
            have BK129 := n10_
            have BK130 := n11_
            have BK131 := n12_
            have HB := n13_
            clear n0_ n1_ n2_ n3_ n4_ n5_ n6_ n7_ n8_ n9_ n10_ n11_ n12_ n13_
            clear hb ho53
            obtain ⟨Ao54, co54, eo54⟩ := Kd.N_slice HO174.out
            (first | subst eo54 | (injection eo54 with f1_ f2_ f3_; have f4_ := f1_.symm; have f5_ := f3_.symm; clear f1_ f2_ f3_; subst f4_; subst f5_))
            refine hK.out _ _ ⟨(blk_cell BK131.out 0).trans rfl, (blk_cell BK131.out 1).trans rfl, (blk_cell BK131.out 2).trans rfl, (blk_cell BK131.out 3).trans rfl, (blk_cell BK131.out 4).trans rfl⟩ (fun hHeld => ?_)
            clear hK K
            refine norm_ (a' := ?_) ?_ ?_
            rotate_left
            ·show Act.put _ (some 53) _ = _
             simp only [Act.put, List.setIfInBounds_toArray, List.set_cons_zero, List.set_cons_succ, i64_w, i32_w]
             rfl
            refine one_ (i := 18) (N := some 54) #[true, true, true, true, true, true, true, true, true, true, true, true, true, true, true, true, true, true, true, false, false] rfl rfl (one_of HT_.out (by kernel_rfl)) (by decide) (fun K hK => ?_)
            refine goes_ Try.func39 (by kernel_rfl) rfl #[.slice Ao54 y172.length co54] (by rfl) rfl rfl (by (try simp only [List.map_toArray, List.map_cons, List.map_nil]); first | done | rfl | (simp only [List.length_drop, List.length_take]; rfl)) ?_
            with_reducible refine (slices_Concat_string_string.calls _ _ y172 t175 _ ?side1 ?side2 A32.out).mono ?_
            (case side1 => repeat (first | exact (Kd.N_reads' HO174.out).2.2 | (with_reducible refine Kd.C_alloc ?_ _) | (with_reducible refine Kd.C_drewN ?_ _) | (with_reducible refine Kd.C_drew ?_)))
            (case side2 => exact (Kd.N_reads' HO174.out).2.1)
            rintro e w55 ⟨v176, rfl, ho0, hb⟩
            refine ⟨_, rfl, ?_⟩
            have n0_ := Aside0.mk (Kd.V_elder' (by (with_reducible repeat (first | apply Kd.V_alloc | apply Kd.V_drewN | apply Kd.V_drew)); exact HO_4.out) (Kd.R_base ho0) hb)
            have n1_ := Aside0.mk (Kd.V_elder' (by (with_reducible repeat (first | apply Kd.V_alloc | apply Kd.V_drewN | apply Kd.V_drew)); exact HO_130004.out) (Kd.R_base ho0) hb)
            have n2_ := Aside0.mk (Kd.V_elder' (by (with_reducible repeat (first | apply Kd.V_alloc | apply Kd.V_drewN | apply Kd.V_drew)); exact HO137.out) (Kd.R_base ho0) hb)
            have n3_ := Aside0.mk (Kd.V_elder' (by (with_reducible repeat (first | apply Kd.V_alloc | apply Kd.V_drewN | apply Kd.V_drew)); exact HO143.out) (Kd.R_base ho0) hb)
            have n4_ := Aside0.mk (Kd.V_elder' (by (with_reducible repeat (first | apply Kd.V_alloc | apply Kd.V_drewN | apply Kd.V_drew)); exact HO149.out) (Kd.R_base ho0) hb)
            have n5_ := Aside0.mk (Kd.V_elder' (by (with_reducible repeat (first | apply Kd.V_alloc | apply Kd.V_drewN | apply Kd.V_drew)); exact HO154.out) (Kd.R_base ho0) hb)
            have n6_ := Aside0.mk (Kd.V_elder' (by (with_reducible repeat (first | apply Kd.V_alloc | apply Kd.V_drewN | apply Kd.V_drew)); exact HO165.out) (Kd.R_base ho0) hb)
            have n7_ := Aside0.mk (Kd.R_elder' (by (with_reducible repeat (first | apply Kd.R_alloc | apply Kd.R_drewN | apply Kd.R_drew)); exact HO157.out) (Kd.R_base ho0) hb)
            have n8_ := Aside0.mk (Kd.R_elder' (by (with_reducible repeat (first | apply Kd.R_alloc | apply Kd.R_drewN | apply Kd.R_drew)); exact HO168.out) (Kd.R_base ho0) hb)
            have n9_ := Aside0.mk (Kd.N_elder' (by (with_reducible repeat (first | apply Kd.N_alloc | apply Kd.N_drewN | apply Kd.N_drew)); exact HO174.out) (Kd.R_base ho0) hb)
            have n10_ := Aside0.mk (Kd.R_lower (Kd.R_new' (Kd.R_new' (Kd.R_newM (M := fun k_ => (w.heap.size ≤ k_)) ho0 (below_size (by repeat (first | (with_reducible first | exact HB.out | apply below_alloc | apply pw_below_drewN | apply below_drew1 | refine below_set ?_ GE129.out | refine below_set ?_ GE130.out | refine below_set ?_ GE131.out) | exact HB.out))) (fun k_ h_ => h_)) (Kd.R_lt (by (with_reducible repeat (first | apply Kd.R_alloc | apply Kd.R_drewN | apply Kd.R_drew)); exact HO157.out))) (Kd.R_lt (by (with_reducible repeat (first | apply Kd.R_alloc | apply Kd.R_drewN | apply Kd.R_drew)); exact HO168.out))) (below_size (by repeat (first | (with_reducible first | exact HB.out | apply below_alloc | apply pw_below_drewN | apply below_drew1 | refine below_set ?_ GE129.out | refine below_set ?_ GE130.out | refine below_set ?_ GE131.out) | exact HB.out))))
            have n11_ := Aside0.mk (blk_below (g := gb129) (o := .cells #[.int .i64 a0_0, .int .i64 a0_1, .int .i64 a0_2, .int .i64 a0_3, .slice A0_4 l0_4.length c0_4] 41 (0, 0)) (by (with_reducible repeat (first | refine blk_drewN ?_ _ | refine blk_drew ?_ | refine blk_alloc ?_ _)); exact BK129.out) hb)
            have n12_ := Aside0.mk (blk_below (g := gb130) (o := .cells #[.int .i64 0, .int .i64 0, .int .i64 0, .int .i64 0, .slice none 0 0] 41 (0, 0)) (by (with_reducible repeat (first | refine blk_drewN ?_ _ | refine blk_drew ?_ | refine blk_alloc ?_ _)); exact BK130.out) hb)
            have n13_ := Aside0.mk (blk_below (g := gb131) (o := .cells #[.int .i64 a0_2, .int .i64 a0_3, .int .i64 a0_0, .int .i64 a0_1, .slice Ao49 x132004_1.length co49] 41 (0, 0)) (by (with_reducible repeat (first | refine blk_drewN ?_ _ | refine blk_drew ?_ | refine blk_alloc ?_ _)); exact BK131.out) hb)
            have n14_ := Aside0.mk (below_step (by repeat (first | (with_reducible first | exact HB.out | apply below_alloc | apply pw_below_drewN | apply below_drew1 | refine below_set ?_ GE129.out | refine below_set ?_ GE130.out | refine below_set ?_ GE131.out) | exact HB.out)) hb)
            clear HO_4
            clear HO_130004
            clear HO137
            clear HO143
            clear HO149
            clear HO154
            clear HO165
            clear HO157
            clear HO168
            clear HO174
            clear BK129
            clear BK130
            clear BK131
            clear HB
            have HO_4 := n0_
            have HO_130004 := n1_
            have HO137 := n2_
            have HO143 := n3_
            have HO149 := n4_
            have HO154 := n5_
            have HO165 := n6_
            have HO157 := n7_
            have HO168 := n8_
            have HO174 := n9_
            have HO177 := n10_
            have BK129 := n11_
            have BK130 := n12_
            have BK131 := n13_
            have HB := n14_
            clear n0_ n1_ n2_ n3_ n4_ n5_ n6_ n7_ n8_ n9_ n10_ n11_ n12_ n13_ n14_
            (try clear hb)
            (try clear hb2)
            (try clear hk)
            (try clear hi)
            (try clear ho0)
            obtain ⟨Ao56, co56, eo56⟩ := Kd.R_slice HO177.out
            (first | subst eo56 | (injection eo56 with f1_ f2_ f3_; have f4_ := f1_.symm; have f5_ := f3_.symm; clear f1_ f2_ f3_; subst f4_; subst f5_))
            refine hK.out _ _ ⟨(blk_cell BK131.out 0).trans rfl, (blk_cell BK131.out 1).trans rfl, (blk_cell BK131.out 2).trans rfl, (blk_cell BK131.out 3).trans rfl, (blk_cell BK131.out 4).trans rfl⟩ (fun hHeld => ?_)
            clear hK K
            refine norm_ (a' := ?_) ?_ ?_
            rotate_left
            ·show Act.put _ (some 54) _ = _
             simp only [Act.put, List.setIfInBounds_toArray, List.set_cons_zero, List.set_cons_succ, i64_w, i32_w]
             rfl
            refine pure_ (i := 19) (N := some 55) (v := ?_) (a' := ?_) #[true, true, true, true, true, true, true, true, true, true, true, true, true, true, true, true, true, true, true, true, false] rfl rfl (any_of HT_.out (by kernel_rfl)) (fun _ _ _ h => h) (Or.inl ⟨by rfl, ?_⟩) ?_ ?_
            rotate_left
            ·intro w'
             go_simp
             with_reducible rfl
            rotate_left
            ·simp only [Act.put, List.setIfInBounds_toArray, List.set_cons_zero, List.set_cons_succ, i64_w, i32_w]
             rfl
            refine last_ (i := 20) (N := none) #[true, true, true, true, true, true, true, true, true, true, true, true, true, true, true, true, true, true, true, true, true] rfl rfl (one_of HT_.out (by kernel_rfl)) (by decide) (fun K hK => ?_)
            have hs57 : w55.cell? ⟨gb131, 4, none⟩ = some (.slice Ao49 x132004_1.length co49) := (blk_cell BK131.out 4).trans rfl
            have hfs57 := blk_frozen BK131.out 4
            have hns57_0 := NB129_131.out
            have hns57_1 := NB130_131.out
            have hms57_0 := NB131_129.out
            have hms57_1 := NB131_130.out
            refine skip_ (w1 := ?_) (by rfl) rfl ?_ ?_
            rotate_left
            ·go_simp
             rfl
            refine hK.out _ _ ?_
            clear hK K
            refine done_ (done_of HT_.out (by kernel_rfl)) ?_
            have n0_ : Aside0 (Kd.V Kd.string 9 (w55.setCell ⟨gb131, 4, none⟩ (.slice Ao56 t175.length co56)) w.heap.size (fun k_ => (P0_4_ k_ ∨ w.heap.size ≤ k_) ∧ some k_ ≠ (.slice Ao44 t155.length co44 : Value).ownBlock ∧ some k_ ≠ (.slice Ao47 t166.length co47 : Value).ownBlock ∧ some k_ ≠ (.slice Ao54 y172.length co54 : Value).ownBlock ∧ some k_ ≠ (.slice Ao56 t175.length co56 : Value).ownBlock ∧ k_ ≠ gb129 ∧ k_ ≠ gb130 ∧ k_ ≠ gb131) (.slice Ao36 x4_1.length co36) x4_1) := ⟨by (with_reducible repeat (first | apply Kd.V_alloc | apply Kd.V_drewN | apply Kd.V_drew)); exact Kd.V_mono (Kd.V_far (p := ⟨gb131, 4, none⟩) (Kd.V_mono HO_4.out (fun k_ hk => (⟨hk, hk.1.1.1.1.1.1.2.2.2.2⟩ : _ ∧ k_ ≠ gb131))) (fun _ hk => hk.2) (.slice Ao56 t175.length co56)) (fun _ hk => ⟨hk.1.1.1.1.1.1.1.1, ⟨hk.1.1.1.1.1.1.2, ⟨hk.1.1.1.1.2, ⟨hk.1.1.2, ⟨hk.1.2, ⟨hk.1.1.1.1.1.1.1.2.2.1, ⟨hk.1.1.1.1.1.1.1.2.2.2.1, hk.1.1.1.1.1.1.1.2.2.2.2⟩⟩⟩⟩⟩⟩⟩)⟩
            have n1_ : Aside0 (Kd.V Kd.string 9 (w55.setCell ⟨gb131, 4, none⟩ (.slice Ao56 t175.length co56)) w.heap.size (fun k_ => (P0_4_ k_ ∨ w.heap.size ≤ k_) ∧ some k_ ≠ (.slice Ao44 t155.length co44 : Value).ownBlock ∧ some k_ ≠ (.slice Ao47 t166.length co47 : Value).ownBlock ∧ some k_ ≠ (.slice Ao54 y172.length co54 : Value).ownBlock ∧ some k_ ≠ (.slice Ao56 t175.length co56 : Value).ownBlock ∧ k_ ≠ gb129 ∧ k_ ≠ gb130 ∧ k_ ≠ gb131) (.slice A0_4 l0_4.length c0_4) l0_4) := ⟨by (with_reducible repeat (first | apply Kd.V_alloc | apply Kd.V_drewN | apply Kd.V_drew)); exact Kd.V_mono (Kd.V_far (p := ⟨gb131, 4, none⟩) (Kd.V_mono HO_130004.out (fun k_ hk => (⟨hk, hk.1.1.1.1.1.1.2.2.2.2⟩ : _ ∧ k_ ≠ gb131))) (fun _ hk => hk.2) (.slice Ao56 t175.length co56)) (fun _ hk => ⟨hk.1.1.1.1.1.1.1.1, ⟨hk.1.1.1.1.1.1.2, ⟨hk.1.1.1.1.2, ⟨hk.1.1.2, ⟨hk.1.2, ⟨hk.1.1.1.1.1.1.1.2.2.1, ⟨hk.1.1.1.1.1.1.1.2.2.2.1, hk.1.1.1.1.1.1.1.2.2.2.2⟩⟩⟩⟩⟩⟩⟩)⟩
            have n2_ : Aside0 (Kd.V Kd.string 9 (w55.setCell ⟨gb131, 4, none⟩ (.slice Ao56 t175.length co56)) w.heap.size (fun k_ => (P0_4_ k_ ∨ w.heap.size ≤ k_) ∧ some k_ ≠ (.slice Ao44 t155.length co44 : Value).ownBlock ∧ some k_ ≠ (.slice Ao47 t166.length co47 : Value).ownBlock ∧ some k_ ≠ (.slice Ao54 y172.length co54 : Value).ownBlock ∧ some k_ ≠ (.slice Ao56 t175.length co56 : Value).ownBlock ∧ k_ ≠ gb129 ∧ k_ ≠ gb130 ∧ k_ ≠ gb131) (.slice A37 y133.length c37) y133) := ⟨by (with_reducible repeat (first | apply Kd.V_alloc | apply Kd.V_drewN | apply Kd.V_drew)); exact Kd.V_mono (Kd.V_far (p := ⟨gb131, 4, none⟩) (Kd.V_mono HO137.out (fun k_ hk => (⟨hk, hk.1.1.1.1.1.1.2.2.2.2⟩ : _ ∧ k_ ≠ gb131))) (fun _ hk => hk.2) (.slice Ao56 t175.length co56)) (fun _ hk => ⟨hk.1.1.1.1.1.1.1.1, ⟨hk.1.1.1.1.1.1.2, ⟨hk.1.1.1.1.2, ⟨hk.1.1.2, ⟨hk.1.2, ⟨hk.1.1.1.1.1.1.1.2.2.1, ⟨hk.1.1.1.1.1.1.1.2.2.2.1, hk.1.1.1.1.1.1.1.2.2.2.2⟩⟩⟩⟩⟩⟩⟩)⟩
            have n3_ : Aside0 (Kd.V Kd.string 9 (w55.setCell ⟨gb131, 4, none⟩ (.slice Ao56 t175.length co56)) w.heap.size (fun k_ => (P0_4_ k_ ∨ w.heap.size ≤ k_) ∧ some k_ ≠ (.slice Ao44 t155.length co44 : Value).ownBlock ∧ some k_ ≠ (.slice Ao47 t166.length co47 : Value).ownBlock ∧ some k_ ≠ (.slice Ao54 y172.length co54 : Value).ownBlock ∧ some k_ ≠ (.slice Ao56 t175.length co56 : Value).ownBlock ∧ k_ ≠ gb129 ∧ k_ ≠ gb130 ∧ k_ ≠ gb131) (.slice A38 y139.length c38) y139) := ⟨by (with_reducible repeat (first | apply Kd.V_alloc | apply Kd.V_drewN | apply Kd.V_drew)); exact Kd.V_mono (Kd.V_far (p := ⟨gb131, 4, none⟩) (Kd.V_mono HO143.out (fun k_ hk => (⟨hk, hk.1.1.1.1.1.1.2.2.2.2⟩ : _ ∧ k_ ≠ gb131))) (fun _ hk => hk.2) (.slice Ao56 t175.length co56)) (fun _ hk => ⟨hk.1.1.1.1.1.1.1.1, ⟨hk.1.1.1.1.1.1.2, ⟨hk.1.1.1.1.2, ⟨hk.1.1.2, ⟨hk.1.2, ⟨hk.1.1.1.1.1.1.1.2.2.1, ⟨hk.1.1.1.1.1.1.1.2.2.2.1, hk.1.1.1.1.1.1.1.2.2.2.2⟩⟩⟩⟩⟩⟩⟩)⟩
            have n4_ : Aside0 (Kd.V Kd.string 9 (w55.setCell ⟨gb131, 4, none⟩ (.slice Ao56 t175.length co56)) w.heap.size (fun k_ => (P0_4_ k_ ∨ w.heap.size ≤ k_) ∧ some k_ ≠ (.slice Ao44 t155.length co44 : Value).ownBlock ∧ some k_ ≠ (.slice Ao47 t166.length co47 : Value).ownBlock ∧ some k_ ≠ (.slice Ao54 y172.length co54 : Value).ownBlock ∧ some k_ ≠ (.slice Ao56 t175.length co56 : Value).ownBlock ∧ k_ ≠ gb129 ∧ k_ ≠ gb130 ∧ k_ ≠ gb131) (.slice Ao36 y145.length co36) y145) := ⟨by (with_reducible repeat (first | apply Kd.V_alloc | apply Kd.V_drewN | apply Kd.V_drew)); exact Kd.V_mono (Kd.V_far (p := ⟨gb131, 4, none⟩) (Kd.V_mono HO149.out (fun k_ hk => (⟨hk, hk.1.1.1.1.1.1.2.2.2.2⟩ : _ ∧ k_ ≠ gb131))) (fun _ hk => hk.2) (.slice Ao56 t175.length co56)) (fun _ hk => ⟨hk.1.1.1.1.1.1.1.1, ⟨hk.1.1.1.1.1.1.2, ⟨hk.1.1.1.1.2, ⟨hk.1.1.2, ⟨hk.1.2, ⟨hk.1.1.1.1.1.1.1.2.2.1, ⟨hk.1.1.1.1.1.1.1.2.2.2.1, hk.1.1.1.1.1.1.1.2.2.2.2⟩⟩⟩⟩⟩⟩⟩)⟩
            have n5_ : Aside0 (Kd.V Kd.string 9 (w55.setCell ⟨gb131, 4, none⟩ (.slice Ao56 t175.length co56)) w.heap.size (fun k_ => (P0_4_ k_ ∨ w.heap.size ≤ k_) ∧ some k_ ≠ (.slice Ao44 t155.length co44 : Value).ownBlock ∧ some k_ ≠ (.slice Ao47 t166.length co47 : Value).ownBlock ∧ some k_ ≠ (.slice Ao54 y172.length co54 : Value).ownBlock ∧ some k_ ≠ (.slice Ao56 t175.length co56 : Value).ownBlock ∧ k_ ≠ gb129 ∧ k_ ≠ gb130 ∧ k_ ≠ gb131) (.slice A41 y150.length c41) y150) := ⟨by (with_reducible repeat (first | apply Kd.V_alloc | apply Kd.V_drewN | apply Kd.V_drew)); exact Kd.V_mono (Kd.V_far (p := ⟨gb131, 4, none⟩) (Kd.V_mono HO154.out (fun k_ hk => (⟨hk, hk.1.1.1.1.1.1.2.2.2.2⟩ : _ ∧ k_ ≠ gb131))) (fun _ hk => hk.2) (.slice Ao56 t175.length co56)) (fun _ hk => ⟨hk.1.1.1.1.1.1.1.1, ⟨hk.1.1.1.1.1.1.2, ⟨hk.1.1.1.1.2, ⟨hk.1.1.2, ⟨hk.1.2, ⟨hk.1.1.1.1.1.1.1.2.2.1, ⟨hk.1.1.1.1.1.1.1.2.2.2.1, hk.1.1.1.1.1.1.1.2.2.2.2⟩⟩⟩⟩⟩⟩⟩)⟩
            have n6_ : Aside0 (Kd.V Kd.string 9 (w55.setCell ⟨gb131, 4, none⟩ (.slice Ao56 t175.length co56)) w.heap.size (fun k_ => (P0_4_ k_ ∨ w.heap.size ≤ k_) ∧ some k_ ≠ (.slice Ao44 t155.length co44 : Value).ownBlock ∧ some k_ ≠ (.slice Ao47 t166.length co47 : Value).ownBlock ∧ some k_ ≠ (.slice Ao54 y172.length co54 : Value).ownBlock ∧ some k_ ≠ (.slice Ao56 t175.length co56 : Value).ownBlock ∧ k_ ≠ gb129 ∧ k_ ≠ gb130 ∧ k_ ≠ gb131) (.slice A42 y161.length c42) y161) := ⟨by (with_reducible repeat (first | apply Kd.V_alloc | apply Kd.V_drewN | apply Kd.V_drew)); exact Kd.V_mono (Kd.V_far (p := ⟨gb131, 4, none⟩) (Kd.V_mono HO165.out (fun k_ hk => (⟨hk, hk.1.1.1.1.1.1.2.2.2.2⟩ : _ ∧ k_ ≠ gb131))) (fun _ hk => hk.2) (.slice Ao56 t175.length co56)) (fun _ hk => ⟨hk.1.1.1.1.1.1.1.1, ⟨hk.1.1.1.1.1.1.2, ⟨hk.1.1.1.1.2, ⟨hk.1.1.2, ⟨hk.1.2, ⟨hk.1.1.1.1.1.1.1.2.2.1, ⟨hk.1.1.1.1.1.1.1.2.2.2.1, hk.1.1.1.1.1.1.1.2.2.2.2⟩⟩⟩⟩⟩⟩⟩)⟩
            have n7_ : Aside0 (Kd.R Kd.string 9 (w55.setCell ⟨gb131, 4, none⟩ (.slice Ao56 t175.length co56)) w.heap.size (fun k_ => (w.heap.size ≤ k_) ∧ some k_ ≠ (.slice Ao47 t166.length co47 : Value).ownBlock ∧ some k_ ≠ (.slice Ao56 t175.length co56 : Value).ownBlock) (.slice Ao44 t155.length co44) t155) := ⟨by (with_reducible repeat (first | apply Kd.R_alloc | apply Kd.R_drewN | apply Kd.R_drew)); exact Kd.R_mono (Kd.R_far (p := ⟨gb131, 4, none⟩) (Kd.R_types HO157.out BK131.out (by decide)) (fun _ hk => hk.2) (.slice Ao56 t175.length co56)) (fun _ hk => ⟨hk.1.1.1.1.1.1.1, ⟨hk.1.1.1.2, hk.1.2⟩⟩)⟩
            have n8_ : Aside0 (Kd.R Kd.string 9 (w55.setCell ⟨gb131, 4, none⟩ (.slice Ao56 t175.length co56)) w.heap.size (fun k_ => (w.heap.size ≤ k_) ∧ some k_ ≠ (.slice Ao44 t155.length co44 : Value).ownBlock ∧ some k_ ≠ (.slice Ao56 t175.length co56 : Value).ownBlock) (.slice Ao47 t166.length co47) t166) := ⟨by (with_reducible repeat (first | apply Kd.R_alloc | apply Kd.R_drewN | apply Kd.R_drew)); exact Kd.R_mono (Kd.R_far (p := ⟨gb131, 4, none⟩) (Kd.R_types HO168.out BK131.out (by decide)) (fun _ hk => hk.2) (.slice Ao56 t175.length co56)) (fun _ hk => ⟨hk.1.1.1.1.1.1.1, ⟨hk.1.1.1.1.2, hk.1.2⟩⟩)⟩
            have n9_ : Aside0 (Kd.N (Kd.slice 9 Kd.string) 22 (w55.setCell ⟨gb131, 4, none⟩ (.slice Ao56 t175.length co56)) w.heap.size (fun k_ => (P0_4_ k_ ∨ w.heap.size ≤ k_) ∧ some k_ ≠ (.slice Ao44 t155.length co44 : Value).ownBlock ∧ some k_ ≠ (.slice Ao47 t166.length co47 : Value).ownBlock ∧ some k_ ≠ (.slice Ao56 t175.length co56 : Value).ownBlock ∧ k_ ≠ gb129 ∧ k_ ≠ gb130 ∧ k_ ≠ gb131) (.slice Ao54 y172.length co54) y172) := ⟨by (with_reducible repeat (first | apply Kd.N_alloc | apply Kd.N_drewN | apply Kd.N_drew)); exact Kd.N_mono (Kd.N_far (p := ⟨gb131, 4, none⟩) (Kd.N_mono HO174.out (fun k_ hk => (⟨hk, hk.1.2.2.2.2.2⟩ : _ ∧ k_ ≠ gb131))) (fun _ hk => hk.2) (.slice Ao56 t175.length co56)) (fun _ hk => ⟨hk.1.1.1, ⟨hk.1.1.2.1, ⟨hk.1.1.2.2.1, ⟨hk.1.2, ⟨hk.1.1.2.2.2.1, ⟨hk.1.1.2.2.2.2.1, hk.1.1.2.2.2.2.2⟩⟩⟩⟩⟩⟩)⟩
            have n10_ : Aside0 (Kd.R Kd.string 9 (w55.setCell ⟨gb131, 4, none⟩ (.slice Ao56 t175.length co56)) w.heap.size (fun k_ => (w.heap.size ≤ k_) ∧ some k_ ≠ (.slice Ao44 t155.length co44 : Value).ownBlock ∧ some k_ ≠ (.slice Ao47 t166.length co47 : Value).ownBlock) (.slice Ao56 t175.length co56) t175) := ⟨by (with_reducible repeat (first | apply Kd.R_alloc | apply Kd.R_drewN | apply Kd.R_drew)); exact Kd.R_mono (Kd.R_far (p := ⟨gb131, 4, none⟩) (Kd.R_types HO177.out BK131.out (by decide)) (fun _ hk => hk.2) (.slice Ao56 t175.length co56)) (fun _ hk => ⟨hk.1.1.1.1, ⟨hk.1.1.2, hk.1.2⟩⟩)⟩
            have n11_ : Aside0 ((w55.setCell ⟨gb131, 4, none⟩ (.slice Ao56 t175.length co56)).heap[gb129]? = some (.cells #[.int .i64 a0_0, .int .i64 a0_1, .int .i64 a0_2, .int .i64 a0_3, .slice A0_4 l0_4.length c0_4] 41 (0, 0))) := ⟨by (with_reducible repeat (first | refine blk_drewN ?_ _ | refine blk_drew ?_ | refine blk_alloc ?_ _)); refine blk_far ?_ NB129_131.out _; (with_reducible repeat (first | refine blk_drewN ?_ _ | refine blk_drew ?_ | refine blk_alloc ?_ _)); exact BK129.out⟩
            have n12_ : Aside0 ((w55.setCell ⟨gb131, 4, none⟩ (.slice Ao56 t175.length co56)).heap[gb130]? = some (.cells #[.int .i64 0, .int .i64 0, .int .i64 0, .int .i64 0, .slice none 0 0] 41 (0, 0))) := ⟨by (with_reducible repeat (first | refine blk_drewN ?_ _ | refine blk_drew ?_ | refine blk_alloc ?_ _)); refine blk_far ?_ NB130_131.out _; (with_reducible repeat (first | refine blk_drewN ?_ _ | refine blk_drew ?_ | refine blk_alloc ?_ _)); exact BK130.out⟩
            have n13_ : Aside0 ((w55.setCell ⟨gb131, 4, none⟩ (.slice Ao56 t175.length co56)).heap[gb131]? = some (.cells #[.int .i64 a0_2, .int .i64 a0_3, .int .i64 a0_0, .int .i64 a0_1, .slice Ao56 t175.length co56] 41 (0, 0))) := ⟨by (with_reducible repeat (first | refine blk_drewN ?_ _ | refine blk_drew ?_ | refine blk_alloc ?_ _)); refine blk_put (cs := #[.int .i64 a0_2, .int .i64 a0_3, .int .i64 a0_0, .int .i64 a0_1, .slice Ao49 x132004_1.length co49]) ?_ 4 _ rfl; (with_reducible repeat (first | refine blk_drewN ?_ _ | refine blk_drew ?_ | refine blk_alloc ?_ _)); exact BK131.out⟩
            have n14_ : Aside0 (Below w.heap.size w (w55.setCell ⟨gb131, 4, none⟩ (.slice Ao56 t175.length co56))) := ⟨by repeat (first | (with_reducible first | exact HB.out | apply below_alloc | apply pw_below_drewN | apply below_drew1 | refine below_set ?_ GE129.out | refine below_set ?_ GE130.out | refine below_set ?_ GE131.out) | exact HB.out)⟩
            (try clear HO_4)
            (try clear HO_130004)
            (try clear HO137)
            (try clear HO143)
            (try clear HO149)
            (try clear HO154)
            (try clear HO165)
            (try clear HO157)
            (try clear HO168)
            (try clear HO174)
            (try clear HO177)
            (try clear BK129)
            (try clear BK130)
            (try clear BK131)
            (try clear HB)
            generalize (w55.setCell ⟨gb131, 4, none⟩ (.slice Ao56 t175.length co56)) = w58 at n0_ n1_ n2_ n3_ n4_ n5_ n6_ n7_ n8_ n9_ n10_ n11_ n12_ n13_ n14_ ⊢
            have HO_4 := n0_
            have HO_130004 := n1_
            have HO137 := n2_
            have HO143 := n3_
            have HO149 := n4_
            have HO154 := n5_
            have HO165 := n6_
            have HO157 := n7_
            have HO168 := n8_
            have HO174 := n9_
            have HO177 := n10_
            have BK129 := n11_
            have BK130 := n12_
            have BK131 := n13_
            have HB := n14_
            clear n0_ n1_ n2_ n3_ n4_ n5_ n6_ n7_ n8_ n9_ n10_ n11_ n12_ n13_ n14_
            have q59 : ((ji33) : Int) ≤ ((x4_1.length : Int) : Int) := of_decide_eq_true (by first | (with_reducible assumption) | assumption)
            obtain ⟨i059, hi059, _, hsz59, _⟩ := info_parts info9
            have hroom59 : x4_1.length ≤ co36 := (Kd.V_reads' HO_4.out).2.1
            have hC59 : Kd.F Kd.string _ _ Ao36 x4_1.length x4_1 := (Kd.V_at (base := w.heap.size) HO_4.out).2.2
            have q059 : (0 : Int) ≤ ((ji33) : Int) := of_decide_eq_true (by first | (with_reducible assumption) | assumption)
            have hcut59 := cut_from (P := Try.prog) 22 9 .i64 Try.underlying22 hi059 1 hsz59 Ao36 x4_1.length co36 (ji33) q059 q59
            have hr59 := Kd.F_cut (m := ((ji33) : Int).toNat) (c := co36) hC59 (by omega) hroom59
            obtain ⟨A59, hA59⟩ : ∃ A1, A1 = (if co36 = ((ji33) : Int).toNat then Ao36 else (Ao36 : Option Addr).map (·.add (((ji33) : Int).toNat * 1))) := ⟨_, rfl⟩
            obtain ⟨c59, hc59⟩ : ∃ c1, c1 = co36 - ((ji33) : Int).toNat := ⟨_, rfl⟩
            have hy59 : y178.length = x4_1.length - ((ji33) : Int).toNat := (by rw [Ny178.out, List.length_drop] <;> omega)
            rw [show (x4_1).drop ((ji33) : Int).toNat = y178 from Ny178.out.symm] at hr59
            replace hr59 : Kd.F Kd.string _ _ A59 y178.length y178 := (by rw [hA59]; exact hr59)
            rw [← hy59, ← hA59, ← hc59] at hcut59
            have HO182 := Aside0.mk (show Kd.V Kd.string 9 _ w.heap.size _ (.slice A59 y178.length c59) y178 from Kd.V_mk (by rw [hy59, hc59]; exact Nat.sub_le_sub_right hroom59 _) hr59)
            have HC182 := Aside0.mk (show y178.length ≤ c59 from by rw [hy59, hc59]; exact Nat.sub_le_sub_right hroom59 _)
            clear hr59 hC59 hroom59 hi059 hsz59 hc59
            have KY59 := Aside0.mk hy59
            have KA59 := Aside0.mk hA59
            clear hy59 hA59
            replace q59 := eq_true q59
            try go_wp2
            go_roundg k1
            case measure => have := HK1.out; omega
            case rel => exact ⟨(y178), (t175), (.slice Ao56 t175.length co56), H', ⟨by have := HK1.out; omega⟩, ⟨by (with_reducible repeat (first | apply Kd.V_alloc | apply Kd.V_drewN | apply Kd.V_drew)); exact Kd.V_mono HO182.out (fun _ hk => ⟨hk.1, ⟨hk.2.2.2.2.1, ⟨hk.2.2.2.2.2.1, ⟨hk.2.2.2.2.2.2.1, hk.2.2.2.2.2.2.2⟩⟩⟩⟩)⟩, ⟨by (with_reducible repeat (first | apply Kd.V_alloc | apply Kd.V_drewN | apply Kd.V_drew)); exact Kd.V_mono HO_130004.out (fun _ hk => ⟨hk.1, ⟨hk.2.2.2.2.1, ⟨hk.2.2.2.2.2.1, ⟨hk.2.2.2.2.2.2.1, hk.2.2.2.2.2.2.2⟩⟩⟩⟩)⟩, ⟨by (with_reducible repeat (first | apply Kd.R_alloc | apply Kd.R_drewN | apply Kd.R_drew)); exact Kd.R_mono HO177.out (fun _ hk => hk.1)⟩, ⟨by (with_reducible repeat (first | refine blk_drewN ?_ _ | refine blk_drew ?_ | refine blk_alloc ?_ _)); exact BK129.out⟩, ⟨by (with_reducible repeat (first | refine blk_drewN ?_ _ | refine blk_drew ?_ | refine blk_alloc ?_ _)); exact BK130.out⟩, ⟨by (with_reducible repeat (first | refine blk_drewN ?_ _ | refine blk_drew ?_ | refine blk_alloc ?_ _)); exact BK131.out⟩, ⟨by repeat (first | (with_reducible first | exact HB.out | apply below_alloc | apply pw_below_drewN | apply below_drew1 | refine below_set ?_ GE129.out | refine below_set ?_ GE130.out | refine below_set ?_ GE131.out) | exact HB.out)⟩⟩
           ·rw [if_neg c34] at H
            exact absurd H (by simp)
          ·rw [if_neg c28] at H
           exact absurd H (by simp)
         ·rw [if_neg c24] at H
          exact absurd H (by simp)
        ·rw [if_neg c23] at H
         exact absurd H (by simp)
       ·rw [if_neg c18] at H
        exact absurd H (by simp)
      ·rw [if_neg c17] at H
       exact absurd H (by simp)
     ·rw [if_neg c14] at H
      exact absurd H (by simp)
    ·rw [if_neg c13] at H
     exact absurd H (by simp)
   ·rw [if_neg c11] at H
    have c11b0 : decide (0 < (x4_1.length : Int)) = false := decide_eq_false c11
    have c11b1 : decide (0 < x4_1.length) = false := decide_eq_false (by omega)
    clear c11
    simp only [Option.some.injEq, Prod.mk.injEq] at H
    obtain ⟨rfl, rfl, rfl, rfl, rfl⟩ := H
    obtain ⟨Ao60, co60, eo60⟩ := Kd.V_slice HO_4.out
    subst eo60
    have hnb61 := NB131_129.out
    have hnc61 := NB129_131.out
    have hnb62 := NB131_130.out
    have hnc62 := NB130_131.out
    have hcz63_0 : wr.cell? ⟨gb131, 0, none⟩ = some (.int .i64 a0_2) := (blk_cell BK131.out 0).trans rfl
    have hcz63_1 : wr.cell? ⟨gb131, 1, none⟩ = some (.int .i64 a0_3) := (blk_cell BK131.out 1).trans rfl
    have hcz63_2 : wr.cell? ⟨gb131, 2, none⟩ = some (.int .i64 a0_0) := (blk_cell BK131.out 2).trans rfl
    have hcz63_3 : wr.cell? ⟨gb131, 3, none⟩ = some (.int .i64 a0_1) := (blk_cell BK131.out 3).trans rfl
    have hcz63_4 : wr.cell? ⟨gb131, 4, none⟩ = some (u132004) := (blk_cell BK131.out 4).trans rfl
    have hfz63_0 := blk_frozen BK131.out 0
    have hfz63_1 := blk_frozen BK131.out 1
    have hfz63_2 := blk_frozen BK131.out 2
    have hfz63_3 := blk_frozen BK131.out 3
    have hfz63_4 := blk_frozen BK131.out 4
    have hnb64 := NB130_129.out
    have hnc64 := NB129_130.out
    have hcz65_0 : wr.cell? ⟨gb130, 0, none⟩ = some (.int .i64 0) := (blk_cell BK130.out 0).trans rfl
    have hcz65_1 : wr.cell? ⟨gb130, 1, none⟩ = some (.int .i64 0) := (blk_cell BK130.out 1).trans rfl
    have hcz65_2 : wr.cell? ⟨gb130, 2, none⟩ = some (.int .i64 0) := (blk_cell BK130.out 2).trans rfl
    have hcz65_3 : wr.cell? ⟨gb130, 3, none⟩ = some (.int .i64 0) := (blk_cell BK130.out 3).trans rfl
    have hcz65_4 : wr.cell? ⟨gb130, 4, none⟩ = some (.slice none 0 0) := (blk_cell BK130.out 4).trans rfl
    have hfz65_0 := blk_frozen BK130.out 0
    have hfz65_1 := blk_frozen BK130.out 1
    have hfz65_2 := blk_frozen BK130.out 2
    have hfz65_3 := blk_frozen BK130.out 3
    have hfz65_4 := blk_frozen BK130.out 4
    obtain ⟨Ao66, co66, eo66⟩ := Kd.R_slice HO_132004.out
    subst eo66
    go_wp2
    refine bodyPost_ret (results_cell_row rfl _ _ gb130 41 #[.int .i64 a0_2, .int .i64 a0_3, .int .i64 a0_0, .int .i64 a0_1, .slice Ao66 x132004_1.length co66] (0, 0) _ rfl (by (with_reducible repeat (first | refine blk_drewN ?_ _ | refine blk_drew ?_ | refine blk_alloc ?_ _)); refine blk_put (cs := #[.int .i64 a0_2, .int .i64 a0_3, .int .i64 a0_0, .int .i64 a0_1, .slice none 0 0]) ?_ 4 _ rfl; (with_reducible repeat (first | refine blk_drewN ?_ _ | refine blk_drew ?_ | refine blk_alloc ?_ _)); refine blk_put (cs := #[.int .i64 a0_2, .int .i64 a0_3, .int .i64 a0_0, .int .i64 0, .slice none 0 0]) ?_ 3 _ rfl; (with_reducible repeat (first | refine blk_drewN ?_ _ | refine blk_drew ?_ | refine blk_alloc ?_ _)); refine blk_put (cs := #[.int .i64 a0_2, .int .i64 a0_3, .int .i64 0, .int .i64 0, .slice none 0 0]) ?_ 2 _ rfl; (with_reducible repeat (first | refine blk_drewN ?_ _ | refine blk_drew ?_ | refine blk_alloc ?_ _)); refine blk_put (cs := #[.int .i64 a0_2, .int .i64 0, .int .i64 0, .int .i64 0, .slice none 0 0]) ?_ 1 _ rfl; (with_reducible repeat (first | refine blk_drewN ?_ _ | refine blk_drew ?_ | refine blk_alloc ?_ _)); refine blk_put (cs := #[.int .i64 0, .int .i64 0, .int .i64 0, .int .i64 0, .slice none 0 0]) ?_ 0 _ rfl; (with_reducible repeat (first | refine blk_drewN ?_ _ | refine blk_drew ?_ | refine blk_alloc ?_ _)); exact BK130.out) Try.underlying41 rfl (by kernel_rfl)) rfl ?_
    exact ⟨_, by first | rfl | (simp [errW_none, errW_some] <;> rfl) | (simp [*, errW_none, errW_some] <;> rfl), by (with_reducible repeat (first | apply Kd.R_alloc | apply Kd.R_drewN | apply Kd.R_drew)); exact Kd.R_mono (Kd.R_far (p := ⟨gb130, 4, none⟩) (Kd.R_far (p := ⟨gb130, 3, none⟩) (Kd.R_far (p := ⟨gb130, 2, none⟩) (Kd.R_far (p := ⟨gb130, 1, none⟩) (Kd.R_far (p := ⟨gb130, 0, none⟩) (Kd.R_types HO_132004.out BK130.out (by decide)) (fun _ hk => hk.2) (.int .i64 a0_2)) (fun _ hk => hk.2) (.int .i64 a0_3)) (fun _ hk => hk.2) (.int .i64 a0_0)) (fun _ hk => hk.2) (.int .i64 a0_1)) (fun _ hk => hk.2) (.slice Ao66 x132004_1.length co66)) (fun _ hk => hk.1), by repeat (first | (with_reducible first | exact HB.out | apply below_alloc | apply pw_below_drewN | apply below_drew1 | refine below_set ?_ GE129.out | refine below_set ?_ GE130.out | refine below_set ?_ GE131.out) | exact HB.out)⟩

end Go.Proofs.Ytoaijganmfijmaa.Pr
-- shrunk
