-- written by a program of this session's (a turned copy of the kit's printer); Lean checks it
import Derived.Test.YtlabiajcohmjhaaD0
import Derived.Test.YtlabiajcohmjhaaGSlices
import Derived.Test.YtlabiajcohmjhaaD1c
import Derived.Test.YtlabiajcohmjhaaD4a
import Derived.Test.YtlabiajcohmjhaaD4b
namespace Go.Proofs.Ytlabiajcohmjhaa.Pr
open Go.RowKit Go.Proofs.YtlabiajcohmjhaaW.PrintWords Go.Proofs.YtlabiajcohmjhaaW.PrintLast Go.Proofs.YtlabiajcohmjhaaW.PrintMore
attribute [local go_sem] max2_int min2_int max_two min_two max_three min_three max_four min_four   -- for this text's walks alone
set_option linter.unusedVariables false
set_option linter.unusedSimpArgs false

def hunk_Turn.l0 : Nat → List ByteArray → Int → Int → Int → Int → List ByteArray → Option (Int × Int × Int × Int × List ByteArray)
 | 0, _, _, _, _, _, _ => none
 | k + 1, x4, x207000, x207001, x207002, x207003, x207004 => if (x4.length : Int) > 0 then ((hunk_run.f k x4 32).bind fun t207 => (if 0 ≤ t207 then (if t207 ≤ (x4.length : Int) then ((hunk_run.f k (x4.drop (t207 : Int).toNat) 45).bind fun t213 => (if 0 ≤ (wrap64 (t207 + t213)) then (if (wrap64 (t207 + t213)) ≤ (x4.length : Int) then ((hunk_run.f k (x4.drop ((wrap64 (t207 + t213)) : Int).toNat) 43).bind fun t219 => (if (wrap64 (t207 + t213)) ≤ (wrap64 ((wrap64 (t207 + t213)) + t219)) then (if (wrap64 ((wrap64 (t207 + t213)) + t219)) ≤ (x4.length : Int) then ((hunk_bare.f k ((x4.take ((wrap64 ((wrap64 (t207 + t213)) + t219)) : Int).toNat).drop ((wrap64 (t207 + t213)) : Int).toNat)).bind fun t230 => ((hunk_signed.f k 45 t230).bind fun t233 => (if t207 ≤ (wrap64 (t207 + t213)) then ((hunk_bare.f k ((x4.take ((wrap64 (t207 + t213)) : Int).toNat).drop (t207 : Int).toNat)).bind fun t241 => ((hunk_signed.f k 43 t241).bind fun t244 => ((slices_Concat_string_string.f (([x207004, (x4.take (t207 : Int).toNat), t233, t244] : List (List ByteArray)))).bind fun t250 => (if 0 ≤ (wrap64 ((wrap64 (t207 + t213)) + t219)) then (hunk_Turn.l0 k (x4.drop ((wrap64 ((wrap64 (t207 + t213)) + t219)) : Int).toNat) x207000 x207001 x207002 x207003 t250) else (none))))) else (none)))) else (none)) else (none))) else (none)) else (none))) else (none)) else (none))) else (some (x207000, x207001, x207002, x207003, x207004))
def hunk_Turn.f (k : Nat) (a0_0 : Int) (a0_1 : Int) (a0_2 : Int) (a0_3 : Int) (l0_4 : List ByteArray) : Option (Int × Int × Int × Int × List ByteArray) := hunk_Turn.l0 k l0_4 a0_2 a0_3 a0_0 a0_1 ([] : List ByteArray)
theorem hunk_Turn.mono_l : ∀ k, (∀ y0 y1 y2 y3 y4 y5, LeO (hunk_Turn.l0 k y0 y1 y2 y3 y4 y5) (hunk_Turn.l0 (k + 1) y0 y1 y2 y3 y4 y5))
 | 0 => fun _ _ _ _ _ _ r h => by simp [hunk_Turn.l0] at h
 | k + 1 => by
  have ih0 := hunk_Turn.mono_l k
  ·intro y0 y1 y2 y3 y4 y5
   unfold hunk_Turn.l0
   repeat' first
   | (with_reducible exact ih0 _ _ _ _ _ _)
   | (with_reducible exact hunk_bare.mono _ _)
   | (with_reducible exact hunk_run.mono _ _ _)
   | (with_reducible exact hunk_signed.mono _ _ _)
   | (with_reducible exact LeO.refl _)
   | (with_reducible exact LeO.none _)
   | (with_reducible refine LeO.ite ?_ ?_)
   | (with_reducible refine LeO.bind ?_ (fun _ => ?_))
   | exact ih0 _ _ _ _ _ _
   | exact hunk_bare.mono _ _
   | exact hunk_run.mono _ _ _
   | exact hunk_signed.mono _ _ _
   | exact LeO.none _
   | refine LeO.ite ?_ ?_
   | refine LeO.bind ?_ (fun _ => ?_)
theorem hunk_Turn.mono : ∀ a0 a1 a2 a3 a4 k, LeO (hunk_Turn.f k a0 a1 a2 a3 a4) (hunk_Turn.f (k + 1) a0 a1 a2 a3 a4) := by
 intro a0 a1 a2 a3 a4 k
 have ih0 := hunk_Turn.mono_l k
 unfold hunk_Turn.f
 repeat' first
   | (with_reducible exact ih0 _ _ _ _ _ _)
   | (with_reducible exact hunk_bare.mono _ _)
   | (with_reducible exact hunk_run.mono _ _ _)
   | (with_reducible exact hunk_signed.mono _ _ _)
   | (with_reducible exact LeO.refl _)
   | (with_reducible exact LeO.none _)
   | (with_reducible refine LeO.ite ?_ ?_)
   | (with_reducible refine LeO.bind ?_ (fun _ => ?_))
   | exact ih0 _ _ _ _ _ _
   | exact hunk_bare.mono _ _
   | exact hunk_run.mono _ _ _
   | exact hunk_signed.mono _ _ _
   | exact LeO.none _
   | refine LeO.ite ?_ ?_
   | refine LeO.bind ?_ (fun _ => ?_)
def hunk_Turn.T7 : Bool × List (List Nat × List Nat) := (true, [([], []), ([0], [0]), ([], []), ([], []), ([2, 3], [2, 3]), ([], []), ([], []), ([], []), ([5, 6, 7], [5, 6, 7]), ([8], [8]), ([9, 9], [9]), ([], []), ([], []), ([], []), ([11, 12, 13], [11, 12, 13]), ([14, 10], [14]), ([15, 15], [15]), ([1, 4, 10, 16], [1, 4, 10, 16]), ([17, 16], [17]), ([0, 1, 2, 3, 4, 5, 6, 7, 8, 9, 10, 11, 12, 13, 14, 15, 16, 17, 18], []), ([19, 18, 18, 0, 1, 2, 3, 4, 5, 6, 7, 8, 9, 10, 11, 12, 13, 14, 15, 16, 17, 18], [18, 19])])
def hunk_Turn.B7 : List Nat := [0, 1, 0, 0, 12, 0, 0, 0, 224, 480, 992, 0, 0, 0, 14336, 32736, 65504, 131071, 262143, 524287, 1048575]
theorem hunk_Turn.tab7 : rtab .any (opsOf Try.f18 7) = hunk_Turn.T7 := by kernel_rfl
theorem hunk_Turn.bits7 : waitsOk hunk_Turn.T7.2 hunk_Turn.B7 = true := by kernel_rfl
set_option maxHeartbeats 8000000 in
set_option maxRecDepth 100000 in
theorem hunk_Turn.calls (k : Nat) (a0_0 : Int) (a0_1 : Int) (a0_2 : Int) (a0_3 : Int) (P0_4_ : Nat → Prop) (A0_4 : Option Addr) (c0_4 : Nat) (l0_4 : List ByteArray) (r1 : Int) (r2 : Int) (r3 : Int) (r4 : Int) (r5 : List ByteArray) (w : World) (hs0_4 : Kd.V Kd.string 9 w w.heap.size (fun k_ => P0_4_ k_) (.slice A0_4 l0_4.length c0_4) l0_4) (h : hunk_Turn.f k a0_0 a0_1 a0_2 a0_3 l0_4 = some (r1, r2, r3, r4, r5)) :
  Calls Try.prog 18 #[.agg #[.int .i64 a0_0, .int .i64 a0_1, .int .i64 a0_2, .int .i64 a0_3, .slice A0_4 l0_4.length c0_4]] w fun e w' => ∃ v4_ : Value, e = .returned (.agg #[.int .i64 r1, .int .i64 r2, .int .i64 r3, .int .i64 r4, v4_]) ∧ Kd.R Kd.string 9 w' w.heap.size (fun k_ => (w.heap.size ≤ k_)) v4_ r5 ∧ Below w.heap.size w w' := by
 have hu33 := Try.underlying33
 have HO0_4 := Aside0.mk (show Kd.V Kd.string 9 w w.heap.size (fun k_ => (P0_4_ k_ ∨ w.heap.size ≤ k_)) (.slice A0_4 l0_4.length c0_4) l0_4 from Kd.V_mono hs0_4 (fun k_ hk => .inl hk))
 have HB := Aside0.mk (Below.refl w.heap.size w)
 have H : (hunk_Turn.l0 k l0_4 a0_2 a0_3 a0_0 a0_1 ([] : List ByteArray)) = some (r1, r2, r3, r4, r5) := h
 clear h
 have H' := Aside0.mk H
 clear H
 go_enter Try.func18, Try.ntmps18
 go_wp2_with (first | ((with_reducible refine gate_dst (N := 1) rfl ?_); refine box_event ?hg (N := 1) ?hd (cs := #[.int .i64 a0_0, .int .i64 a0_1, .int .i64 a0_2, .int .i64 a0_3, .slice A0_4 l0_4.length c0_4]) (t := 33) ?hr ?_; (case hd => rfl); (case hg => rfl); (case hr => first | (go_simp; done) | (go_simp; rfl)); intro gb204 hg w2 hbox hb; have n0_ := Aside0.mk (Kd.V_below (Kd.V_elderB (by (with_reducible repeat (first | apply Kd.V_alloc | apply Kd.V_drewN | apply Kd.V_drew)); exact HO0_4.out) gb204 (Nat.le_of_eq hg.symm)) hb); have n1_ := Aside0.mk (below_step (by repeat (first | (with_reducible first | exact HB.out | apply below_alloc | apply pw_below_drewN | apply below_drew1) | exact HB.out)) hb); have n2_ := Aside0.mk (hbox); have n3_ := Aside0.mk ((by rw [hg]; exact (below_size (by repeat (first | (with_reducible first | exact HB.out | apply below_alloc | apply pw_below_drewN | apply below_drew1) | exact HB.out))) : w.heap.size ≤ gb204)); have n4_ := Aside0.mk ((by rw [hg]; exact (below_size (by repeat (first | (with_reducible first | exact HB.out | apply below_alloc | apply pw_below_drewN | apply below_drew1) | exact HB.out))) : w.heap.size ≤ gb204)); clear HO0_4; clear HB; have HO0_4 := n0_; have HB := n1_; have BK204 := n2_; have GW204 := n3_; have GE204 := n4_; clear n0_ n1_ n2_ n3_ n4_; clear hb hbox hg) | ((with_reducible refine gate_dst (N := 2) rfl ?_); refine box_event ?hg (N := 2) ?hd (cs := #[.int .i64 0, .int .i64 0, .int .i64 0, .int .i64 0, .slice none 0 0]) (t := 33) ?hr ?_; (case hd => rfl); (case hg => rfl); (case hr => first | (go_simp; done) | (go_simp; rfl)); intro gb205 hg w3 hbox hb; have n0_ := Aside0.mk (Kd.V_below (Kd.V_elderB (by (with_reducible repeat (first | apply Kd.V_alloc | apply Kd.V_drewN | apply Kd.V_drew)); exact HO0_4.out) gb205 (Nat.le_of_eq hg.symm)) hb); have n1_ := Aside0.mk (blk_below (g := gb204) (o := .cells #[.int .i64 a0_0, .int .i64 a0_1, .int .i64 a0_2, .int .i64 a0_3, .slice A0_4 l0_4.length c0_4] 33 (0, 0)) (by (with_reducible repeat (first | refine blk_drewN ?_ _ | refine blk_drew ?_ | refine blk_alloc ?_ _)); exact BK204.out) hb); have n2_ := Aside0.mk (below_step (by repeat (first | (with_reducible first | exact HB.out | apply below_alloc | apply pw_below_drewN | apply below_drew1 | refine below_set ?_ GE204.out) | exact HB.out)) hb); have n3_ := Aside0.mk (hbox); have n4_ := Aside0.mk ((by rw [hg]; exact (below_size (by repeat (first | (with_reducible first | exact HB.out | apply below_alloc | apply pw_below_drewN | apply below_drew1 | refine below_set ?_ GE204.out) | exact HB.out))) : w.heap.size ≤ gb205)); have n5_ := Aside0.mk ((by rw [hg]; exact (below_size (by repeat (first | (with_reducible first | exact HB.out | apply below_alloc | apply pw_below_drewN | apply below_drew1 | refine below_set ?_ GE204.out) | exact HB.out))) : w.heap.size ≤ gb205)); have n6_ := Aside0.mk ((by rw [hg]; exact Nat.ne_of_lt (blk_lt (g := gb204) (o := .cells #[.int .i64 a0_0, .int .i64 a0_1, .int .i64 a0_2, .int .i64 a0_3, .slice A0_4 l0_4.length c0_4] 33 (0, 0)) (by (with_reducible repeat (first | refine blk_drewN ?_ _ | refine blk_drew ?_ | refine blk_alloc ?_ _)); exact BK204.out)) : gb204 ≠ gb205)); have n7_ := Aside0.mk ((by rw [hg]; exact Nat.ne_of_gt (blk_lt (g := gb204) (o := .cells #[.int .i64 a0_0, .int .i64 a0_1, .int .i64 a0_2, .int .i64 a0_3, .slice A0_4 l0_4.length c0_4] 33 (0, 0)) (by (with_reducible repeat (first | refine blk_drewN ?_ _ | refine blk_drew ?_ | refine blk_alloc ?_ _)); exact BK204.out)) : gb205 ≠ gb204)); clear HO0_4; clear BK204; clear HB; have HO0_4 := n0_; have BK204 := n1_; have HB := n2_; have BK205 := n3_; have GW205 := n4_; have GE205 := n5_; have NB204_205 := n6_; have NB205_204 := n7_; clear n0_ n1_ n2_ n3_ n4_ n5_ n6_ n7_; clear hb hbox hg; have hnb4 := NB204_205.out; have hnc4 := NB205_204.out; have hcz5_0 : w3.cell? ⟨gb204, 0, none⟩ = some (.int .i64 a0_0) := (blk_cell BK204.out 0).trans rfl; have hcz5_1 : w3.cell? ⟨gb204, 1, none⟩ = some (.int .i64 a0_1) := (blk_cell BK204.out 1).trans rfl; have hcz5_2 : w3.cell? ⟨gb204, 2, none⟩ = some (.int .i64 a0_2) := (blk_cell BK204.out 2).trans rfl; have hcz5_3 : w3.cell? ⟨gb204, 3, none⟩ = some (.int .i64 a0_3) := (blk_cell BK204.out 3).trans rfl; have hcz5_4 : w3.cell? ⟨gb204, 4, none⟩ = some (.slice A0_4 l0_4.length c0_4) := (blk_cell BK204.out 4).trans rfl; have hfz5_0 := blk_frozen BK204.out 0; have hfz5_1 := blk_frozen BK204.out 1; have hfz5_2 := blk_frozen BK204.out 2; have hfz5_3 := blk_frozen BK204.out 3; have hfz5_4 := blk_frozen BK204.out 4) | ((with_reducible refine gate_dst (N := 3) rfl ?_); refine box_event ?hg (N := 3) ?hd (cs := #[.int .i64 0, .int .i64 0, .int .i64 0, .int .i64 0, .slice none 0 0]) (t := 33) ?hr ?_; (case hd => rfl); (case hg => rfl); (case hr => first | (go_simp; done) | (go_simp; rfl)); intro gb206 hg w6 hbox hb; have n0_ := Aside0.mk (Kd.V_below (Kd.V_elderB (by (with_reducible repeat (first | apply Kd.V_alloc | apply Kd.V_drewN | apply Kd.V_drew)); exact HO0_4.out) gb206 (Nat.le_of_eq hg.symm)) hb); have n1_ := Aside0.mk (blk_below (g := gb204) (o := .cells #[.int .i64 a0_0, .int .i64 a0_1, .int .i64 a0_2, .int .i64 a0_3, .slice A0_4 l0_4.length c0_4] 33 (0, 0)) (by (with_reducible repeat (first | refine blk_drewN ?_ _ | refine blk_drew ?_ | refine blk_alloc ?_ _)); exact BK204.out) hb); have n2_ := Aside0.mk (blk_below (g := gb205) (o := .cells #[.int .i64 0, .int .i64 0, .int .i64 0, .int .i64 0, .slice none 0 0] 33 (0, 0)) (by (with_reducible repeat (first | refine blk_drewN ?_ _ | refine blk_drew ?_ | refine blk_alloc ?_ _)); exact BK205.out) hb); have n3_ := Aside0.mk (below_step (by repeat (first | (with_reducible first | exact HB.out | apply below_alloc | apply pw_below_drewN | apply below_drew1 | refine below_set ?_ GE204.out | refine below_set ?_ GE205.out) | exact HB.out)) hb); have n4_ := Aside0.mk (hbox); have n5_ := Aside0.mk ((by rw [hg]; exact (below_size (by repeat (first | (with_reducible first | exact HB.out | apply below_alloc | apply pw_below_drewN | apply below_drew1 | refine below_set ?_ GE204.out | refine below_set ?_ GE205.out) | exact HB.out))) : w.heap.size ≤ gb206)); have n6_ := Aside0.mk ((by rw [hg]; exact (below_size (by repeat (first | (with_reducible first | exact HB.out | apply below_alloc | apply pw_below_drewN | apply below_drew1 | refine below_set ?_ GE204.out | refine below_set ?_ GE205.out) | exact HB.out))) : w.heap.size ≤ gb206)); have n7_ := Aside0.mk ((by rw [hg]; exact Nat.ne_of_lt (blk_lt (g := gb204) (o := .cells #[.int .i64 a0_0, .int .i64 a0_1, .int .i64 a0_2, .int .i64 a0_3, .slice A0_4 l0_4.length c0_4] 33 (0, 0)) (by (with_reducible repeat (first | refine blk_drewN ?_ _ | refine blk_drew ?_ | refine blk_alloc ?_ _)); exact BK204.out)) : gb204 ≠ gb206)); have n8_ := Aside0.mk ((by rw [hg]; exact Nat.ne_of_gt (blk_lt (g := gb204) (o := .cells #[.int .i64 a0_0, .int .i64 a0_1, .int .i64 a0_2, .int .i64 a0_3, .slice A0_4 l0_4.length c0_4] 33 (0, 0)) (by (with_reducible repeat (first | refine blk_drewN ?_ _ | refine blk_drew ?_ | refine blk_alloc ?_ _)); exact BK204.out)) : gb206 ≠ gb204)); have n9_ := Aside0.mk ((by rw [hg]; exact Nat.ne_of_lt (blk_lt (g := gb205) (o := .cells #[.int .i64 0, .int .i64 0, .int .i64 0, .int .i64 0, .slice none 0 0] 33 (0, 0)) (by (with_reducible repeat (first | refine blk_drewN ?_ _ | refine blk_drew ?_ | refine blk_alloc ?_ _)); exact BK205.out)) : gb205 ≠ gb206)); have n10_ := Aside0.mk ((by rw [hg]; exact Nat.ne_of_gt (blk_lt (g := gb205) (o := .cells #[.int .i64 0, .int .i64 0, .int .i64 0, .int .i64 0, .slice none 0 0] 33 (0, 0)) (by (with_reducible repeat (first | refine blk_drewN ?_ _ | refine blk_drew ?_ | refine blk_alloc ?_ _)); exact BK205.out)) : gb206 ≠ gb205)); clear HO0_4; clear BK204; clear BK205; clear HB; have HO0_4 := n0_; have BK204 := n1_; have BK205 := n2_; have HB := n3_; have BK206 := n4_; have GW206 := n5_; have GE206 := n6_; have NB204_206 := n7_; have NB206_204 := n8_; have NB205_206 := n9_; have NB206_205 := n10_; clear n0_ n1_ n2_ n3_ n4_ n5_ n6_ n7_ n8_ n9_ n10_; clear hb hbox hg; have hnb7 := NB206_204.out; have hnc7 := NB204_206.out; have hnb8 := NB206_205.out; have hnc8 := NB205_206.out; have hcz9_0 : w6.cell? ⟨gb206, 0, none⟩ = some (.int .i64 0) := (blk_cell BK206.out 0).trans rfl; have hcz9_1 : w6.cell? ⟨gb206, 1, none⟩ = some (.int .i64 0) := (blk_cell BK206.out 1).trans rfl; have hcz9_2 : w6.cell? ⟨gb206, 2, none⟩ = some (.int .i64 0) := (blk_cell BK206.out 2).trans rfl; have hcz9_3 : w6.cell? ⟨gb206, 3, none⟩ = some (.int .i64 0) := (blk_cell BK206.out 3).trans rfl; have hcz9_4 : w6.cell? ⟨gb206, 4, none⟩ = some (.slice none 0 0) := (blk_cell BK206.out 4).trans rfl; have hfz9_0 := blk_frozen BK206.out 0; have hfz9_1 := blk_frozen BK206.out 1; have hfz9_2 := blk_frozen BK206.out 2; have hfz9_3 := blk_frozen BK206.out 3; have hfz9_4 := blk_frozen BK206.out 4; have hcz10_0 : w6.cell? ⟨gb204, 0, none⟩ = some (.int .i64 a0_0) := (blk_cell BK204.out 0).trans rfl; have hcz10_1 : w6.cell? ⟨gb204, 1, none⟩ = some (.int .i64 a0_1) := (blk_cell BK204.out 1).trans rfl; have hcz10_2 : w6.cell? ⟨gb204, 2, none⟩ = some (.int .i64 a0_2) := (blk_cell BK204.out 2).trans rfl; have hcz10_3 : w6.cell? ⟨gb204, 3, none⟩ = some (.int .i64 a0_3) := (blk_cell BK204.out 3).trans rfl; have hcz10_4 : w6.cell? ⟨gb204, 4, none⟩ = some (.slice A0_4 l0_4.length c0_4) := (blk_cell BK204.out 4).trans rfl; have hfz10_0 := blk_frozen BK204.out 0; have hfz10_1 := blk_frozen BK204.out 1; have hfz10_2 := blk_frozen BK204.out 2; have hfz10_3 := blk_frozen BK204.out 3; have hfz10_4 := blk_frozen BK204.out 4))
 go_loopg [4] k (fun kq v4 w' => ∃ (x4_1 : List ByteArray) (x207004_1 : List ByteArray) (u207004 : Value), Aside0 (hunk_Turn.l0 kq x4_1 a0_2 a0_3 a0_0 a0_1 x207004_1 = some (r1, r2, r3, r4, r5)) ∧ Aside0 (kq ≤ k) ∧ Aside0 (Kd.V Kd.string 9 w' w.heap.size (fun k_ => (P0_4_ k_ ∨ w.heap.size ≤ k_) ∧ some k_ ≠ (u207004 : Value).ownBlock ∧ k_ ≠ gb204 ∧ k_ ≠ gb205 ∧ k_ ≠ gb206) v4 x4_1) ∧ Aside0 (Kd.V Kd.string 9 w' w.heap.size (fun k_ => (P0_4_ k_ ∨ w.heap.size ≤ k_) ∧ some k_ ≠ (u207004 : Value).ownBlock ∧ k_ ≠ gb204 ∧ k_ ≠ gb205 ∧ k_ ≠ gb206) (.slice A0_4 l0_4.length c0_4) l0_4) ∧ Aside0 (Kd.R Kd.string 9 w' w.heap.size (fun k_ => (w.heap.size ≤ k_)) u207004 x207004_1) ∧ Aside0 (w'.heap[gb204]? = some (.cells #[.int .i64 a0_0, .int .i64 a0_1, .int .i64 a0_2, .int .i64 a0_3, (.slice A0_4 l0_4.length c0_4)] 33 (0, 0))) ∧ Aside0 (w'.heap[gb205]? = some (.cells #[.int .i64 0, .int .i64 0, .int .i64 0, .int .i64 0, (.slice none 0 0)] 33 (0, 0))) ∧ Aside0 (w'.heap[gb206]? = some (.cells #[.int .i64 a0_2, .int .i64 a0_3, .int .i64 a0_0, .int .i64 a0_1, u207004] 33 (0, 0))) ∧ Aside0 (Below w.heap.size w w'))
 case atStart => exact ⟨(l0_4), (([] : List ByteArray)), (.slice none 0 0), H', ⟨Nat.le_refl _⟩, ⟨by (with_reducible repeat (first | apply Kd.V_alloc | apply Kd.V_drewN | apply Kd.V_drew)); exact Kd.V_mono (Kd.V_far (p := ⟨gb206, 4, none⟩) (Kd.V_far (p := ⟨gb206, 3, none⟩) (Kd.V_far (p := ⟨gb206, 2, none⟩) (Kd.V_far (p := ⟨gb206, 1, none⟩) (Kd.V_far (p := ⟨gb206, 0, none⟩) (Kd.V_mono HO0_4.out (fun k_ hk => (⟨hk, hk.2⟩ : _ ∧ k_ ≠ gb206))) (fun _ hk => hk.2) (.int .i64 a0_2)) (fun _ hk => hk.2) (.int .i64 a0_3)) (fun _ hk => hk.2) (.int .i64 a0_0)) (fun _ hk => hk.2) (.int .i64 a0_1)) (fun _ hk => hk.2) (.slice none 0 0)) (fun _ hk => ⟨hk.1.1.1.1, ⟨(by simp [Value.ownBlock]), ⟨hk.1.1.1.2, ⟨hk.1.1.2, hk.1.2⟩⟩⟩⟩)⟩, ⟨by (with_reducible repeat (first | apply Kd.V_alloc | apply Kd.V_drewN | apply Kd.V_drew)); exact Kd.V_mono (Kd.V_far (p := ⟨gb206, 4, none⟩) (Kd.V_far (p := ⟨gb206, 3, none⟩) (Kd.V_far (p := ⟨gb206, 2, none⟩) (Kd.V_far (p := ⟨gb206, 1, none⟩) (Kd.V_far (p := ⟨gb206, 0, none⟩) (Kd.V_mono HO0_4.out (fun k_ hk => (⟨hk, hk.2⟩ : _ ∧ k_ ≠ gb206))) (fun _ hk => hk.2) (.int .i64 a0_2)) (fun _ hk => hk.2) (.int .i64 a0_3)) (fun _ hk => hk.2) (.int .i64 a0_0)) (fun _ hk => hk.2) (.int .i64 a0_1)) (fun _ hk => hk.2) (.slice none 0 0)) (fun _ hk => ⟨hk.1.1.1.1, ⟨(by simp [Value.ownBlock]), ⟨hk.1.1.1.2, ⟨hk.1.1.2, hk.1.2⟩⟩⟩⟩)⟩, ⟨by first | exact Kd.R_nil _ _ _ _ _ | exact Kd.N_nil _ _ _ _ _ | exact Kd.V_nil _ _ _ _ _ | exact Kd.Q_nil _ _ _ _ _ | exact Kd.S_nil _ _ _ _ _⟩, ⟨by (with_reducible repeat (first | refine blk_drewN ?_ _ | refine blk_drew ?_ | refine blk_alloc ?_ _)); refine blk_far ?_ NB204_206.out _; (with_reducible repeat (first | refine blk_drewN ?_ _ | refine blk_drew ?_ | refine blk_alloc ?_ _)); refine blk_far ?_ NB204_206.out _; (with_reducible repeat (first | refine blk_drewN ?_ _ | refine blk_drew ?_ | refine blk_alloc ?_ _)); refine blk_far ?_ NB204_206.out _; (with_reducible repeat (first | refine blk_drewN ?_ _ | refine blk_drew ?_ | refine blk_alloc ?_ _)); refine blk_far ?_ NB204_206.out _; (with_reducible repeat (first | refine blk_drewN ?_ _ | refine blk_drew ?_ | refine blk_alloc ?_ _)); refine blk_far ?_ NB204_206.out _; (with_reducible repeat (first | refine blk_drewN ?_ _ | refine blk_drew ?_ | refine blk_alloc ?_ _)); exact BK204.out⟩, ⟨by (with_reducible repeat (first | refine blk_drewN ?_ _ | refine blk_drew ?_ | refine blk_alloc ?_ _)); refine blk_far ?_ NB205_206.out _; (with_reducible repeat (first | refine blk_drewN ?_ _ | refine blk_drew ?_ | refine blk_alloc ?_ _)); refine blk_far ?_ NB205_206.out _; (with_reducible repeat (first | refine blk_drewN ?_ _ | refine blk_drew ?_ | refine blk_alloc ?_ _)); refine blk_far ?_ NB205_206.out _; (with_reducible repeat (first | refine blk_drewN ?_ _ | refine blk_drew ?_ | refine blk_alloc ?_ _)); refine blk_far ?_ NB205_206.out _; (with_reducible repeat (first | refine blk_drewN ?_ _ | refine blk_drew ?_ | refine blk_alloc ?_ _)); refine blk_far ?_ NB205_206.out _; (with_reducible repeat (first | refine blk_drewN ?_ _ | refine blk_drew ?_ | refine blk_alloc ?_ _)); exact BK205.out⟩, ⟨by (with_reducible repeat (first | refine blk_drewN ?_ _ | refine blk_drew ?_ | refine blk_alloc ?_ _)); refine blk_put (cs := #[.int .i64 a0_2, .int .i64 a0_3, .int .i64 a0_0, .int .i64 a0_1, .slice none 0 0]) ?_ 4 _ rfl; (with_reducible repeat (first | refine blk_drewN ?_ _ | refine blk_drew ?_ | refine blk_alloc ?_ _)); refine blk_put (cs := #[.int .i64 a0_2, .int .i64 a0_3, .int .i64 a0_0, .int .i64 0, .slice none 0 0]) ?_ 3 _ rfl; (with_reducible repeat (first | refine blk_drewN ?_ _ | refine blk_drew ?_ | refine blk_alloc ?_ _)); refine blk_put (cs := #[.int .i64 a0_2, .int .i64 a0_3, .int .i64 0, .int .i64 0, .slice none 0 0]) ?_ 2 _ rfl; (with_reducible repeat (first | refine blk_drewN ?_ _ | refine blk_drew ?_ | refine blk_alloc ?_ _)); refine blk_put (cs := #[.int .i64 a0_2, .int .i64 0, .int .i64 0, .int .i64 0, .slice none 0 0]) ?_ 1 _ rfl; (with_reducible repeat (first | refine blk_drewN ?_ _ | refine blk_drew ?_ | refine blk_alloc ?_ _)); refine blk_put (cs := #[.int .i64 0, .int .i64 0, .int .i64 0, .int .i64 0, .slice none 0 0]) ?_ 0 _ rfl; (with_reducible repeat (first | refine blk_drewN ?_ _ | refine blk_drew ?_ | refine blk_alloc ?_ _)); exact BK206.out⟩, ⟨by repeat (first | (with_reducible first | exact HB.out | apply below_alloc | apply pw_below_drewN | apply below_drew1 | refine below_set ?_ GE204.out | refine below_set ?_ GE205.out | refine below_set ?_ GE206.out) | exact HB.out)⟩⟩
 case round =>
  clear H'
  try clear c1
  try clear p2
  try clear c4
  try clear c7
  try clear c8
  try clear hcz10_0
  try clear hcz10_1
  try clear hcz10_2
  try clear hcz10_3
  try clear hcz10_4
  try clear hcz5_0
  try clear hcz5_1
  try clear hcz5_2
  try clear hcz5_3
  try clear hcz5_4
  try clear hcz9_0
  try clear hcz9_1
  try clear hcz9_2
  try clear hcz9_3
  try clear hcz9_4
  try clear hfz10_0
  try clear hfz10_1
  try clear hfz10_2
  try clear hfz10_3
  try clear hfz10_4
  try clear hfz5_0
  try clear hfz5_1
  try clear hfz5_2
  try clear hfz5_3
  try clear hfz5_4
  try clear hfz9_0
  try clear hfz9_1
  try clear hfz9_2
  try clear hfz9_3
  try clear hfz9_4
  obtain ⟨x4_1, x207004_1, u207004, HA, HK1, HO_4, HO_205004, HO_207004, BK204, BK205, BK206, HB⟩ := hrel
  cases gk with
  | zero => exact absurd HA.out (by simp [hunk_Turn.l0])
  | succ k1 =>
   have H := HA.out
   clear HA
   simp only [hunk_Turn.l0] at H
   by_cases c11 : (x4_1.length : Int) > 0
   ·rw [if_pos c11] at H
    have c11b0 : decide (0 < (x4_1.length : Int)) = true := decide_eq_true c11
    have c11b1 : decide (0 < x4_1.length) = true := decide_eq_true (by omega)
    clear c11
    replace H := Option.bind_eq_some_iff.mp H
    obtain ⟨t207, A120, H⟩ := H
    replace H : (if 0 ≤ t207 then (if t207 ≤ (x4_1.length : Int) then ((hunk_run.f k1 (x4_1.drop (t207 : Int).toNat) 45).bind fun t213 => (if 0 ≤ (wrap64 (t207 + t213)) then (if (wrap64 (t207 + t213)) ≤ (x4_1.length : Int) then ((hunk_run.f k1 (x4_1.drop ((wrap64 (t207 + t213)) : Int).toNat) 43).bind fun t219 => (if (wrap64 (t207 + t213)) ≤ (wrap64 ((wrap64 (t207 + t213)) + t219)) then (if (wrap64 ((wrap64 (t207 + t213)) + t219)) ≤ (x4_1.length : Int) then ((hunk_bare.f k1 ((x4_1.take ((wrap64 ((wrap64 (t207 + t213)) + t219)) : Int).toNat).drop ((wrap64 (t207 + t213)) : Int).toNat)).bind fun t230 => ((hunk_signed.f k1 45 t230).bind fun t233 => (if t207 ≤ (wrap64 (t207 + t213)) then ((hunk_bare.f k1 ((x4_1.take ((wrap64 (t207 + t213)) : Int).toNat).drop (t207 : Int).toNat)).bind fun t241 => ((hunk_signed.f k1 43 t241).bind fun t244 => ((slices_Concat_string_string.f (([x207004_1, (x4_1.take (t207 : Int).toNat), t233, t244] : List (List ByteArray)))).bind fun t250 => (if 0 ≤ (wrap64 ((wrap64 (t207 + t213)) + t219)) then (hunk_Turn.l0 k1 (x4_1.drop ((wrap64 ((wrap64 (t207 + t213)) + t219)) : Int).toNat) a0_2 a0_3 a0_0 a0_1 t250) else (none))))) else (none)))) else (none)) else (none))) else (none)) else (none))) else (none)) else (none)) = some (r1, r2, r3, r4, r5) := H
    have A12 := Aside0.mk A120
    clear A120
    by_cases c13 : 0 ≤ t207
    ·rw [if_pos c13] at H
     have c13b0 := eq_true c13
     have c13b1 : decide (0 ≤ t207) = true := decide_eq_true c13
     clear c13
     by_cases c14 : t207 ≤ (x4_1.length : Int)
     ·rw [if_pos c14] at H
      have c14b0 := eq_true c14
      have c14b1 : decide (t207 ≤ (x4_1.length : Int)) = true := decide_eq_true c14
      clear c14
      obtain ⟨y208, hy208⟩ : ∃ y_ : List ByteArray, y_ = (x4_1.drop (t207 : Int).toNat) := ⟨_, rfl⟩
      replace H : ((hunk_run.f k1 y208 45).bind fun t213 => (if 0 ≤ (wrap64 (t207 + t213)) then (if (wrap64 (t207 + t213)) ≤ (x4_1.length : Int) then ((hunk_run.f k1 (x4_1.drop ((wrap64 (t207 + t213)) : Int).toNat) 43).bind fun t219 => (if (wrap64 (t207 + t213)) ≤ (wrap64 ((wrap64 (t207 + t213)) + t219)) then (if (wrap64 ((wrap64 (t207 + t213)) + t219)) ≤ (x4_1.length : Int) then ((hunk_bare.f k1 ((x4_1.take ((wrap64 ((wrap64 (t207 + t213)) + t219)) : Int).toNat).drop ((wrap64 (t207 + t213)) : Int).toNat)).bind fun t230 => ((hunk_signed.f k1 45 t230).bind fun t233 => (if t207 ≤ (wrap64 (t207 + t213)) then ((hunk_bare.f k1 ((x4_1.take ((wrap64 (t207 + t213)) : Int).toNat).drop (t207 : Int).toNat)).bind fun t241 => ((hunk_signed.f k1 43 t241).bind fun t244 => ((slices_Concat_string_string.f (([x207004_1, (x4_1.take (t207 : Int).toNat), t233, t244] : List (List ByteArray)))).bind fun t250 => (if 0 ≤ (wrap64 ((wrap64 (t207 + t213)) + t219)) then (hunk_Turn.l0 k1 (x4_1.drop ((wrap64 ((wrap64 (t207 + t213)) + t219)) : Int).toNat) a0_2 a0_3 a0_0 a0_1 t250) else (none))))) else (none)))) else (none)) else (none))) else (none)) else (none))) = some (r1, r2, r3, r4, r5) := by first | (rw [hy208]; with_reducible exact H) | (have H2_ := (Option.bind_some _ _).symm.trans H; rw [hy208]; with_reducible exact H2_) | (have H2_ := (Option.bind_some _ _).symm.trans H; with_reducible exact H2_) | with_reducible exact H | (rw [hy208]; exact H) | exact H
      have Ny208 := Aside0.mk hy208
      clear hy208
      replace H := Option.bind_eq_some_iff.mp H
      obtain ⟨t213, A150, H⟩ := H
      replace H : (if 0 ≤ (wrap64 (t207 + t213)) then (if (wrap64 (t207 + t213)) ≤ (x4_1.length : Int) then ((hunk_run.f k1 (x4_1.drop ((wrap64 (t207 + t213)) : Int).toNat) 43).bind fun t219 => (if (wrap64 (t207 + t213)) ≤ (wrap64 ((wrap64 (t207 + t213)) + t219)) then (if (wrap64 ((wrap64 (t207 + t213)) + t219)) ≤ (x4_1.length : Int) then ((hunk_bare.f k1 ((x4_1.take ((wrap64 ((wrap64 (t207 + t213)) + t219)) : Int).toNat).drop ((wrap64 (t207 + t213)) : Int).toNat)).bind fun t230 => ((hunk_signed.f k1 45 t230).bind fun t233 => (if t207 ≤ (wrap64 (t207 + t213)) then ((hunk_bare.f k1 ((x4_1.take ((wrap64 (t207 + t213)) : Int).toNat).drop (t207 : Int).toNat)).bind fun t241 => ((hunk_signed.f k1 43 t241).bind fun t244 => ((slices_Concat_string_string.f (([x207004_1, (x4_1.take (t207 : Int).toNat), t233, t244] : List (List ByteArray)))).bind fun t250 => (if 0 ≤ (wrap64 ((wrap64 (t207 + t213)) + t219)) then (hunk_Turn.l0 k1 (x4_1.drop ((wrap64 ((wrap64 (t207 + t213)) + t219)) : Int).toNat) a0_2 a0_3 a0_0 a0_1 t250) else (none))))) else (none)))) else (none)) else (none))) else (none)) else (none)) = some (r1, r2, r3, r4, r5) := H
      have A15 := Aside0.mk A150
      clear A150
      obtain ⟨ji16, hji16⟩ : ∃ j_ : Int, (wrap64 (t207 + t213)) = j_ := ⟨_, rfl⟩
      replace H : (if 0 ≤ (ji16) then (if (ji16) ≤ (x4_1.length : Int) then ((hunk_run.f k1 (x4_1.drop ((ji16) : Int).toNat) 43).bind fun t219 => (if (ji16) ≤ (wrap64 ((ji16) + t219)) then (if (wrap64 ((ji16) + t219)) ≤ (x4_1.length : Int) then ((hunk_bare.f k1 ((x4_1.take ((wrap64 ((ji16) + t219)) : Int).toNat).drop ((ji16) : Int).toNat)).bind fun t230 => ((hunk_signed.f k1 45 t230).bind fun t233 => (if t207 ≤ (ji16) then ((hunk_bare.f k1 ((x4_1.take ((ji16) : Int).toNat).drop (t207 : Int).toNat)).bind fun t241 => ((hunk_signed.f k1 43 t241).bind fun t244 => ((slices_Concat_string_string.f (([x207004_1, (x4_1.take (t207 : Int).toNat), t233, t244] : List (List ByteArray)))).bind fun t250 => (if 0 ≤ (wrap64 ((ji16) + t219)) then (hunk_Turn.l0 k1 (x4_1.drop ((wrap64 ((ji16) + t219)) : Int).toNat) a0_2 a0_3 a0_0 a0_1 t250) else (none))))) else (none)))) else (none)) else (none))) else (none)) else (none)) = some (r1, r2, r3, r4, r5) := by first | (rw [hji16] at H; exact H) | (simp only [hji16] at H ⊢; exact H)
      (try rw [hji16] at A12)
      (try rw [hji16] at A15)
      have hji16w : (IntKind.i64.wrap (t207 + t213)) = ji16 := (i64_w _).trans hji16
      by_cases c17 : 0 ≤ (ji16)
      ·rw [if_pos c17] at H
       have c17b0 := eq_true c17
       have c17b1 : decide (0 ≤ (ji16)) = true := decide_eq_true c17
       clear c17
       by_cases c18 : (ji16) ≤ (x4_1.length : Int)
       ·rw [if_pos c18] at H
        have c18b0 := eq_true c18
        have c18b1 : decide ((ji16) ≤ (x4_1.length : Int)) = true := decide_eq_true c18
        clear c18
        obtain ⟨y214, hy214⟩ : ∃ y_ : List ByteArray, y_ = (x4_1.drop ((ji16) : Int).toNat) := ⟨_, rfl⟩
        replace H : ((hunk_run.f k1 y214 43).bind fun t219 => (if (ji16) ≤ (wrap64 ((ji16) + t219)) then (if (wrap64 ((ji16) + t219)) ≤ (x4_1.length : Int) then ((hunk_bare.f k1 ((x4_1.take ((wrap64 ((ji16) + t219)) : Int).toNat).drop ((ji16) : Int).toNat)).bind fun t230 => ((hunk_signed.f k1 45 t230).bind fun t233 => (if t207 ≤ (ji16) then ((hunk_bare.f k1 ((x4_1.take ((ji16) : Int).toNat).drop (t207 : Int).toNat)).bind fun t241 => ((hunk_signed.f k1 43 t241).bind fun t244 => ((slices_Concat_string_string.f (([x207004_1, (x4_1.take (t207 : Int).toNat), t233, t244] : List (List ByteArray)))).bind fun t250 => (if 0 ≤ (wrap64 ((ji16) + t219)) then (hunk_Turn.l0 k1 (x4_1.drop ((wrap64 ((ji16) + t219)) : Int).toNat) a0_2 a0_3 a0_0 a0_1 t250) else (none))))) else (none)))) else (none)) else (none))) = some (r1, r2, r3, r4, r5) := by first | (rw [hy214]; with_reducible exact H) | (have H2_ := (Option.bind_some _ _).symm.trans H; rw [hy214]; with_reducible exact H2_) | (have H2_ := (Option.bind_some _ _).symm.trans H; with_reducible exact H2_) | with_reducible exact H | (rw [hy214]; exact H) | exact H
        have Ny214 := Aside0.mk hy214
        clear hy214
        replace H := Option.bind_eq_some_iff.mp H
        obtain ⟨t219, A190, H⟩ := H
        replace H : (if (ji16) ≤ (wrap64 ((ji16) + t219)) then (if (wrap64 ((ji16) + t219)) ≤ (x4_1.length : Int) then ((hunk_bare.f k1 ((x4_1.take ((wrap64 ((ji16) + t219)) : Int).toNat).drop ((ji16) : Int).toNat)).bind fun t230 => ((hunk_signed.f k1 45 t230).bind fun t233 => (if t207 ≤ (ji16) then ((hunk_bare.f k1 ((x4_1.take ((ji16) : Int).toNat).drop (t207 : Int).toNat)).bind fun t241 => ((hunk_signed.f k1 43 t241).bind fun t244 => ((slices_Concat_string_string.f (([x207004_1, (x4_1.take (t207 : Int).toNat), t233, t244] : List (List ByteArray)))).bind fun t250 => (if 0 ≤ (wrap64 ((ji16) + t219)) then (hunk_Turn.l0 k1 (x4_1.drop ((wrap64 ((ji16) + t219)) : Int).toNat) a0_2 a0_3 a0_0 a0_1 t250) else (none))))) else (none)))) else (none)) else (none)) = some (r1, r2, r3, r4, r5) := H
        have A19 := Aside0.mk A190
        clear A190
        have c20b0 := eq_true (of_decide_eq_true (by first | (with_reducible assumption) | assumption) : 0 ≤ t207)
        have c21b0 := eq_true (of_decide_eq_true (by first | (with_reducible assumption) | assumption) : t207 ≤ (x4_1.length : Int))
        obtain ⟨y220, hy220⟩ : ∃ y_ : List ByteArray, y_ = (x4_1.take (t207 : Int).toNat) := ⟨_, rfl⟩
        replace H : (if (ji16) ≤ (wrap64 ((ji16) + t219)) then (if (wrap64 ((ji16) + t219)) ≤ (x4_1.length : Int) then ((hunk_bare.f k1 ((x4_1.take ((wrap64 ((ji16) + t219)) : Int).toNat).drop ((ji16) : Int).toNat)).bind fun t230 => ((hunk_signed.f k1 45 t230).bind fun t233 => (if t207 ≤ (ji16) then ((hunk_bare.f k1 ((x4_1.take ((ji16) : Int).toNat).drop (t207 : Int).toNat)).bind fun t241 => ((hunk_signed.f k1 43 t241).bind fun t244 => ((slices_Concat_string_string.f (([x207004_1, y220, t233, t244] : List (List ByteArray)))).bind fun t250 => (if 0 ≤ (wrap64 ((ji16) + t219)) then (hunk_Turn.l0 k1 (x4_1.drop ((wrap64 ((ji16) + t219)) : Int).toNat) a0_2 a0_3 a0_0 a0_1 t250) else (none))))) else (none)))) else (none)) else (none)) = some (r1, r2, r3, r4, r5) := by first | (rw [hy220]; with_reducible exact H) | (have H2_ := (Option.bind_some _ _).symm.trans H; rw [hy220]; with_reducible exact H2_) | (have H2_ := (Option.bind_some _ _).symm.trans H; with_reducible exact H2_) | with_reducible exact H | (rw [hy220]; exact H) | exact H
        have Ny220 := Aside0.mk hy220
        clear hy220
        have c22b0 := eq_true (of_decide_eq_true (by first | (with_reducible assumption) | assumption) : 0 ≤ (ji16))
        by_cases c23 : (ji16) ≤ (wrap64 ((ji16) + t219))
        ·rw [if_pos c23] at H
         have c23b0 := eq_true c23
         have c23b1 : decide ((ji16) ≤ (wrap64 ((ji16) + t219))) = true := decide_eq_true c23
         by_cases c24 : (wrap64 ((ji16) + t219)) ≤ (x4_1.length : Int)
         ·rw [if_pos c24] at H
          have c24b0 := eq_true c24
          have c24b1 : decide ((wrap64 ((ji16) + t219)) ≤ (x4_1.length : Int)) = true := decide_eq_true c24
          obtain ⟨y225, hy225⟩ : ∃ y_ : List ByteArray, y_ = ((x4_1.take ((wrap64 ((ji16) + t219)) : Int).toNat).drop ((ji16) : Int).toNat) := ⟨_, rfl⟩
          replace H : ((hunk_bare.f k1 y225).bind fun t230 => ((hunk_signed.f k1 45 t230).bind fun t233 => (if t207 ≤ (ji16) then ((hunk_bare.f k1 ((x4_1.take ((ji16) : Int).toNat).drop (t207 : Int).toNat)).bind fun t241 => ((hunk_signed.f k1 43 t241).bind fun t244 => ((slices_Concat_string_string.f (([x207004_1, y220, t233, t244] : List (List ByteArray)))).bind fun t250 => (if 0 ≤ (wrap64 ((ji16) + t219)) then (hunk_Turn.l0 k1 (x4_1.drop ((wrap64 ((ji16) + t219)) : Int).toNat) a0_2 a0_3 a0_0 a0_1 t250) else (none))))) else (none)))) = some (r1, r2, r3, r4, r5) := by first | (rw [hy225]; with_reducible exact H) | (have H2_ := (Option.bind_some _ _).symm.trans H; rw [hy225]; with_reducible exact H2_) | (have H2_ := (Option.bind_some _ _).symm.trans H; with_reducible exact H2_) | with_reducible exact H | (rw [hy225]; exact H) | exact H
          have Ny225 := Aside0.mk hy225
          clear hy225
          replace H := Option.bind_eq_some_iff.mp H
          obtain ⟨t230, A250, H⟩ := H
          replace H : ((hunk_signed.f k1 45 t230).bind fun t233 => (if t207 ≤ (ji16) then ((hunk_bare.f k1 ((x4_1.take ((ji16) : Int).toNat).drop (t207 : Int).toNat)).bind fun t241 => ((hunk_signed.f k1 43 t241).bind fun t244 => ((slices_Concat_string_string.f (([x207004_1, y220, t233, t244] : List (List ByteArray)))).bind fun t250 => (if 0 ≤ (wrap64 ((ji16) + t219)) then (hunk_Turn.l0 k1 (x4_1.drop ((wrap64 ((ji16) + t219)) : Int).toNat) a0_2 a0_3 a0_0 a0_1 t250) else (none))))) else (none))) = some (r1, r2, r3, r4, r5) := H
          have A25 := Aside0.mk A250
          clear A250
          replace H := Option.bind_eq_some_iff.mp H
          obtain ⟨t233, A260, H⟩ := H
          replace H : (if t207 ≤ (ji16) then ((hunk_bare.f k1 ((x4_1.take ((ji16) : Int).toNat).drop (t207 : Int).toNat)).bind fun t241 => ((hunk_signed.f k1 43 t241).bind fun t244 => ((slices_Concat_string_string.f (([x207004_1, y220, t233, t244] : List (List ByteArray)))).bind fun t250 => (if 0 ≤ (wrap64 ((ji16) + t219)) then (hunk_Turn.l0 k1 (x4_1.drop ((wrap64 ((ji16) + t219)) : Int).toNat) a0_2 a0_3 a0_0 a0_1 t250) else (none))))) else (none)) = some (r1, r2, r3, r4, r5) := H
          have A26 := Aside0.mk A260
          clear A260
          have c27b0 := eq_true (of_decide_eq_true (by first | (with_reducible assumption) | assumption) : 0 ≤ t207)
          by_cases c28 : t207 ≤ (ji16)
          ·rw [if_pos c28] at H
           have c28b0 := eq_true c28
           have c28b1 : decide (t207 ≤ (ji16)) = true := decide_eq_true c28
           clear c28
           have c29b0 := eq_true (of_decide_eq_true (by first | (with_reducible assumption) | assumption) : (ji16) ≤ (x4_1.length : Int))
           obtain ⟨y236, hy236⟩ : ∃ y_ : List ByteArray, y_ = ((x4_1.take ((ji16) : Int).toNat).drop (t207 : Int).toNat) := ⟨_, rfl⟩
           replace H : ((hunk_bare.f k1 y236).bind fun t241 => ((hunk_signed.f k1 43 t241).bind fun t244 => ((slices_Concat_string_string.f (([x207004_1, y220, t233, t244] : List (List ByteArray)))).bind fun t250 => (if 0 ≤ (wrap64 ((ji16) + t219)) then (hunk_Turn.l0 k1 (x4_1.drop ((wrap64 ((ji16) + t219)) : Int).toNat) a0_2 a0_3 a0_0 a0_1 t250) else (none))))) = some (r1, r2, r3, r4, r5) := by first | (rw [hy236]; with_reducible exact H) | (have H2_ := (Option.bind_some _ _).symm.trans H; rw [hy236]; with_reducible exact H2_) | (have H2_ := (Option.bind_some _ _).symm.trans H; with_reducible exact H2_) | with_reducible exact H | (rw [hy236]; exact H) | exact H
           have Ny236 := Aside0.mk hy236
           clear hy236
           replace H := Option.bind_eq_some_iff.mp H
           obtain ⟨t241, A300, H⟩ := H
           replace H : ((hunk_signed.f k1 43 t241).bind fun t244 => ((slices_Concat_string_string.f (([x207004_1, y220, t233, t244] : List (List ByteArray)))).bind fun t250 => (if 0 ≤ (wrap64 ((ji16) + t219)) then (hunk_Turn.l0 k1 (x4_1.drop ((wrap64 ((ji16) + t219)) : Int).toNat) a0_2 a0_3 a0_0 a0_1 t250) else (none)))) = some (r1, r2, r3, r4, r5) := H
           have A30 := Aside0.mk A300
           clear A300
           replace H := Option.bind_eq_some_iff.mp H
           obtain ⟨t244, A310, H⟩ := H
           replace H : ((slices_Concat_string_string.f (([x207004_1, y220, t233, t244] : List (List ByteArray)))).bind fun t250 => (if 0 ≤ (wrap64 ((ji16) + t219)) then (hunk_Turn.l0 k1 (x4_1.drop ((wrap64 ((ji16) + t219)) : Int).toNat) a0_2 a0_3 a0_0 a0_1 t250) else (none))) = some (r1, r2, r3, r4, r5) := H
           have A31 := Aside0.mk A310
           clear A310
           obtain ⟨y247, hy247⟩ : ∃ y_ : List (List ByteArray), y_ = (([x207004_1, y220, t233, t244] : List (List ByteArray))) := ⟨_, rfl⟩
           replace H : ((slices_Concat_string_string.f y247).bind fun t250 => (if 0 ≤ (wrap64 ((ji16) + t219)) then (hunk_Turn.l0 k1 (x4_1.drop ((wrap64 ((ji16) + t219)) : Int).toNat) a0_2 a0_3 a0_0 a0_1 t250) else (none))) = some (r1, r2, r3, r4, r5) := by first | (rw [hy247]; with_reducible exact H) | (have H2_ := (Option.bind_some _ _).symm.trans H; rw [hy247]; with_reducible exact H2_) | (have H2_ := (Option.bind_some _ _).symm.trans H; with_reducible exact H2_) | with_reducible exact H | (rw [hy247]; exact H) | exact H
           have Ny247 := Aside0.mk hy247
           clear hy247
           replace H := Option.bind_eq_some_iff.mp H
           obtain ⟨t250, A320, H⟩ := H
           replace H : (if 0 ≤ (wrap64 ((ji16) + t219)) then (hunk_Turn.l0 k1 (x4_1.drop ((wrap64 ((ji16) + t219)) : Int).toNat) a0_2 a0_3 a0_0 a0_1 t250) else (none)) = some (r1, r2, r3, r4, r5) := H
           have A32 := Aside0.mk A320
           clear A320
           obtain ⟨ji33, hji33⟩ : ∃ j_ : Int, (wrap64 ((ji16) + t219)) = j_ := ⟨_, rfl⟩
           replace H : (if 0 ≤ (ji33) then (hunk_Turn.l0 k1 (x4_1.drop ((ji33) : Int).toNat) a0_2 a0_3 a0_0 a0_1 t250) else (none)) = some (r1, r2, r3, r4, r5) := by first | (rw [hji33] at H; exact H) | (simp only [hji33] at H ⊢; exact H)
           (try rw [hji33] at c23b0)
           (try rw [hji33] at c23b1)
           (try rw [hji33] at c23)
           (try rw [hji33] at c24b0)
           (try rw [hji33] at c24b1)
           (try rw [hji33] at c24)
           (try rw [hji33] at A12)
           (try rw [hji33] at A15)
           (try rw [hji33] at A19)
           (try rw [hji33] at Ny225)
           (try rw [hji33] at A25)
           (try rw [hji33] at A26)
           (try rw [hji33] at A30)
           (try rw [hji33] at A31)
           (try rw [hji33] at A32)
           have hji33w : (IntKind.i64.wrap ((ji16) + t219)) = ji33 := (i64_w _).trans hji33
           by_cases c34 : 0 ≤ (ji33)
           ·rw [if_pos c34] at H
            have c34b0 := eq_true c34
            have c34b1 : decide (0 ≤ (ji33)) = true := decide_eq_true c34
            clear c34
            have c35b0 := eq_true (of_decide_eq_true (by first | (with_reducible assumption) | assumption) : (ji33) ≤ (x4_1.length : Int))
            obtain ⟨y253, hy253⟩ : ∃ y_ : List ByteArray, y_ = (x4_1.drop ((ji33) : Int).toNat) := ⟨_, rfl⟩
            replace H : (hunk_Turn.l0 k1 y253 a0_2 a0_3 a0_0 a0_1 t250) = some (r1, r2, r3, r4, r5) := by first | (rw [hy253]; with_reducible exact H) | (have H2_ := (Option.bind_some _ _).symm.trans H; rw [hy253]; with_reducible exact H2_) | (have H2_ := (Option.bind_some _ _).symm.trans H; with_reducible exact H2_) | with_reducible exact H | (rw [hy253]; exact H) | exact H
            have Ny253 := Aside0.mk hy253
            clear hy253
            have H' := Aside0.mk H
            clear H
            obtain ⟨Ao36, co36, eo36⟩ := Kd.V_slice HO_4.out
            subst eo36
            try go_wp2_with (first | ((with_reducible refine gate_callee (f := 33) rfl ?_); refine goesL_ (some 23) rfl rfl Try.func33 (by kernel_rfl) rfl #[.slice Ao36 x4_1.length co36, .int .u8 32] rfl (by (try simp only [List.map_toArray, List.map_cons, List.map_nil]); first | done | rfl | (simp only [List.length_drop, List.length_take]; rfl)) ?_; (with_reducible refine (hunk_run.calls k1 _ _ x4_1 32 t207 _ ?side1 ?side2 A12.out).mono ?_); (case side1 => repeat (first | exact (Kd.V_reads' HO_4.out).2.2 | (with_reducible refine Kd.C_alloc ?_ _) | (with_reducible refine Kd.C_drewN ?_ _) | (with_reducible refine Kd.C_drew ?_))); (case side2 => exact (Kd.V_reads' HO_4.out).2.1); rintro e w' ⟨rfl, ⟨nd, rfl⟩⟩; refine ⟨_, rfl, ?_⟩; (try (rw [drewN_self wr]; generalize hq_ : World.drewN wr _ = wr; have n0_ : Aside0 (Kd.V Kd.string 9 wr w.heap.size (fun k_ => (P0_4_ k_ ∨ w.heap.size ≤ k_) ∧ some k_ ≠ (u207004 : Value).ownBlock ∧ k_ ≠ gb204 ∧ k_ ≠ gb205 ∧ k_ ≠ gb206) (.slice A0_4 l0_4.length c0_4) l0_4) := ⟨by rw [← hq_]; exact (by (with_reducible repeat (first | apply Kd.V_alloc | apply Kd.V_drewN | apply Kd.V_drew)); exact HO_205004.out)⟩; have n1_ : Aside0 (Kd.R Kd.string 9 wr w.heap.size (fun k_ => (w.heap.size ≤ k_)) u207004 x207004_1) := ⟨by rw [← hq_]; exact (by (with_reducible repeat (first | apply Kd.R_alloc | apply Kd.R_drewN | apply Kd.R_drew)); exact HO_207004.out)⟩; have n2_ : Aside0 (Kd.V Kd.string 9 wr w.heap.size (fun k_ => (P0_4_ k_ ∨ w.heap.size ≤ k_) ∧ some k_ ≠ (u207004 : Value).ownBlock ∧ k_ ≠ gb204 ∧ k_ ≠ gb205 ∧ k_ ≠ gb206) (.slice Ao36 x4_1.length co36) x4_1) := ⟨by rw [← hq_]; exact (by (with_reducible repeat (first | apply Kd.V_alloc | apply Kd.V_drewN | apply Kd.V_drew)); exact HO_4.out)⟩; have n3_ : Aside0 (wr.heap[gb204]? = some (.cells #[.int .i64 a0_0, .int .i64 a0_1, .int .i64 a0_2, .int .i64 a0_3, .slice A0_4 l0_4.length c0_4] 33 (0, 0))) := ⟨by rw [← hq_]; exact (by (with_reducible repeat (first | refine blk_drewN ?_ _ | refine blk_drew ?_ | refine blk_alloc ?_ _)); exact BK204.out)⟩; have n4_ : Aside0 (wr.heap[gb205]? = some (.cells #[.int .i64 0, .int .i64 0, .int .i64 0, .int .i64 0, .slice none 0 0] 33 (0, 0))) := ⟨by rw [← hq_]; exact (by (with_reducible repeat (first | refine blk_drewN ?_ _ | refine blk_drew ?_ | refine blk_alloc ?_ _)); exact BK205.out)⟩; have n5_ : Aside0 (wr.heap[gb206]? = some (.cells #[.int .i64 a0_2, .int .i64 a0_3, .int .i64 a0_0, .int .i64 a0_1, u207004] 33 (0, 0))) := ⟨by rw [← hq_]; exact (by (with_reducible repeat (first | refine blk_drewN ?_ _ | refine blk_drew ?_ | refine blk_alloc ?_ _)); exact BK206.out)⟩; have n6_ : Aside0 (Below w.heap.size w wr) := ⟨by rw [← hq_]; exact (by repeat (first | (with_reducible first | exact HB.out | apply below_alloc | apply pw_below_drewN | apply below_drew1 | refine below_set ?_ GE204.out | refine below_set ?_ GE205.out | refine below_set ?_ GE206.out) | exact HB.out))⟩; clear HO_205004 HO_207004 HO_4 BK204 BK205 BK206 HB hq_; have HO_205004 := n0_; have HO_207004 := n1_; have HO_4 := n2_; have BK204 := n3_; have BK205 := n4_; have BK206 := n5_; have HB := n6_; clear n0_ n1_ n2_ n3_ n4_ n5_ n6_)); have q37 : (t207 : Int) ≤ ((x4_1.length : Int) : Int) := of_decide_eq_true (by first | (with_reducible assumption) | assumption); obtain ⟨i037, hi037, _, hsz37, _⟩ := info_parts info9; have hroom37 : x4_1.length ≤ co36 := (Kd.V_reads' HO_4.out).2.1; have hC37 : Kd.F Kd.string _ _ Ao36 x4_1.length x4_1 := (Kd.V_at (base := w.heap.size) HO_4.out).2.2; have q037 : (0 : Int) ≤ (t207 : Int) := of_decide_eq_true (by first | (with_reducible assumption) | assumption); have hcut37 := cut_from (P := Try.prog) 22 9 .i64 Try.underlying22 hi037 1 hsz37 Ao36 x4_1.length co36 t207 q037 q37; have hr37 := Kd.F_cut (m := (t207 : Int).toNat) (c := co36) hC37 (by omega) hroom37; obtain ⟨A37, hA37⟩ : ∃ A1, A1 = (if co36 = (t207 : Int).toNat then Ao36 else (Ao36 : Option Addr).map (·.add ((t207 : Int).toNat * 1))) := ⟨_, rfl⟩; obtain ⟨c37, hc37⟩ : ∃ c1, c1 = co36 - (t207 : Int).toNat := ⟨_, rfl⟩; have hy37 : y208.length = x4_1.length - (t207 : Int).toNat := (by rw [Ny208.out, List.length_drop] <;> omega); rw [show (x4_1).drop (t207 : Int).toNat = y208 from Ny208.out.symm] at hr37; replace hr37 : Kd.F Kd.string _ _ A37 y208.length y208 := (by rw [hA37]; exact hr37); rw [← hy37, ← hA37, ← hc37] at hcut37; have HO212 := Aside0.mk (show Kd.V Kd.string 9 _ w.heap.size _ (.slice A37 y208.length c37) y208 from Kd.V_mk (by rw [hy37, hc37]; exact Nat.sub_le_sub_right hroom37 _) hr37); have HC212 := Aside0.mk (show y208.length ≤ c37 from by rw [hy37, hc37]; exact Nat.sub_le_sub_right hroom37 _); clear hr37 hC37 hroom37 hi037 hsz37 hc37; have KY37 := Aside0.mk hy37; have KA37 := Aside0.mk hA37; clear hy37 hA37; replace q37 := eq_true q37) | ((with_reducible refine gate_callee (f := 33) rfl ?_); refine goesL_ (some 28) rfl rfl Try.func33 (by kernel_rfl) rfl #[.slice A37 y208.length c37, .int .u8 45] rfl (by (try simp only [List.map_toArray, List.map_cons, List.map_nil]); first | done | rfl | (simp only [List.length_drop, List.length_take]; rfl)) ?_; (with_reducible refine (hunk_run.calls k1 _ _ y208 45 t213 _ ?side1 ?side2 A15.out).mono ?_); (case side1 => repeat (first | exact (Kd.V_reads' HO212.out).2.2 | (with_reducible refine Kd.C_alloc ?_ _) | (with_reducible refine Kd.C_drewN ?_ _) | (with_reducible refine Kd.C_drew ?_))); (case side2 => exact (Kd.V_reads' HO212.out).2.1); rintro e w' ⟨rfl, ⟨nd, rfl⟩⟩; refine ⟨_, rfl, ?_⟩; (try (rw [drewN_self wr]; generalize hq_ : World.drewN wr _ = wr; have n0_ : Aside0 (Kd.V Kd.string 9 wr w.heap.size (fun k_ => (P0_4_ k_ ∨ w.heap.size ≤ k_) ∧ some k_ ≠ (u207004 : Value).ownBlock ∧ k_ ≠ gb204 ∧ k_ ≠ gb205 ∧ k_ ≠ gb206) (.slice A37 y208.length c37) y208) := ⟨by rw [← hq_]; exact (by (with_reducible repeat (first | apply Kd.V_alloc | apply Kd.V_drewN | apply Kd.V_drew)); exact HO212.out)⟩; have n1_ : Aside0 (Kd.V Kd.string 9 wr w.heap.size (fun k_ => (P0_4_ k_ ∨ w.heap.size ≤ k_) ∧ some k_ ≠ (u207004 : Value).ownBlock ∧ k_ ≠ gb204 ∧ k_ ≠ gb205 ∧ k_ ≠ gb206) (.slice A0_4 l0_4.length c0_4) l0_4) := ⟨by rw [← hq_]; exact (by (with_reducible repeat (first | apply Kd.V_alloc | apply Kd.V_drewN | apply Kd.V_drew)); exact HO_205004.out)⟩; have n2_ : Aside0 (Kd.R Kd.string 9 wr w.heap.size (fun k_ => (w.heap.size ≤ k_)) u207004 x207004_1) := ⟨by rw [← hq_]; exact (by (with_reducible repeat (first | apply Kd.R_alloc | apply Kd.R_drewN | apply Kd.R_drew)); exact HO_207004.out)⟩; have n3_ : Aside0 (Kd.V Kd.string 9 wr w.heap.size (fun k_ => (P0_4_ k_ ∨ w.heap.size ≤ k_) ∧ some k_ ≠ (u207004 : Value).ownBlock ∧ k_ ≠ gb204 ∧ k_ ≠ gb205 ∧ k_ ≠ gb206) (.slice Ao36 x4_1.length co36) x4_1) := ⟨by rw [← hq_]; exact (by (with_reducible repeat (first | apply Kd.V_alloc | apply Kd.V_drewN | apply Kd.V_drew)); exact HO_4.out)⟩; have n4_ : Aside0 (wr.heap[gb204]? = some (.cells #[.int .i64 a0_0, .int .i64 a0_1, .int .i64 a0_2, .int .i64 a0_3, .slice A0_4 l0_4.length c0_4] 33 (0, 0))) := ⟨by rw [← hq_]; exact (by (with_reducible repeat (first | refine blk_drewN ?_ _ | refine blk_drew ?_ | refine blk_alloc ?_ _)); exact BK204.out)⟩; have n5_ : Aside0 (wr.heap[gb205]? = some (.cells #[.int .i64 0, .int .i64 0, .int .i64 0, .int .i64 0, .slice none 0 0] 33 (0, 0))) := ⟨by rw [← hq_]; exact (by (with_reducible repeat (first | refine blk_drewN ?_ _ | refine blk_drew ?_ | refine blk_alloc ?_ _)); exact BK205.out)⟩; have n6_ : Aside0 (wr.heap[gb206]? = some (.cells #[.int .i64 a0_2, .int .i64 a0_3, .int .i64 a0_0, .int .i64 a0_1, u207004] 33 (0, 0))) := ⟨by rw [← hq_]; exact (by (with_reducible repeat (first | refine blk_drewN ?_ _ | refine blk_drew ?_ | refine blk_alloc ?_ _)); exact BK206.out)⟩; have n7_ : Aside0 (Below w.heap.size w wr) := ⟨by rw [← hq_]; exact (by repeat (first | (with_reducible first | exact HB.out | apply below_alloc | apply pw_below_drewN | apply below_drew1 | refine below_set ?_ GE204.out | refine below_set ?_ GE205.out | refine below_set ?_ GE206.out) | exact HB.out))⟩; clear HO212 HO_205004 HO_207004 HO_4 BK204 BK205 BK206 HB hq_; have HO212 := n0_; have HO_205004 := n1_; have HO_207004 := n2_; have HO_4 := n3_; have BK204 := n4_; have BK205 := n5_; have BK206 := n6_; have HB := n7_; clear n0_ n1_ n2_ n3_ n4_ n5_ n6_ n7_)); have q38 : ((ji16) : Int) ≤ ((x4_1.length : Int) : Int) := of_decide_eq_true (by first | (with_reducible assumption) | assumption); obtain ⟨i038, hi038, _, hsz38, _⟩ := info_parts info9; have hroom38 : x4_1.length ≤ co36 := (Kd.V_reads' HO_4.out).2.1; have hC38 : Kd.F Kd.string _ _ Ao36 x4_1.length x4_1 := (Kd.V_at (base := w.heap.size) HO_4.out).2.2; have q038 : (0 : Int) ≤ ((ji16) : Int) := of_decide_eq_true (by first | (with_reducible assumption) | assumption); have hcut38 := cut_from (P := Try.prog) 22 9 .i64 Try.underlying22 hi038 1 hsz38 Ao36 x4_1.length co36 (ji16) q038 q38; have hr38 := Kd.F_cut (m := ((ji16) : Int).toNat) (c := co36) hC38 (by omega) hroom38; obtain ⟨A38, hA38⟩ : ∃ A1, A1 = (if co36 = ((ji16) : Int).toNat then Ao36 else (Ao36 : Option Addr).map (·.add (((ji16) : Int).toNat * 1))) := ⟨_, rfl⟩; obtain ⟨c38, hc38⟩ : ∃ c1, c1 = co36 - ((ji16) : Int).toNat := ⟨_, rfl⟩; have hy38 : y214.length = x4_1.length - ((ji16) : Int).toNat := (by rw [Ny214.out, List.length_drop] <;> omega); rw [show (x4_1).drop ((ji16) : Int).toNat = y214 from Ny214.out.symm] at hr38; replace hr38 : Kd.F Kd.string _ _ A38 y214.length y214 := (by rw [hA38]; exact hr38); rw [← hy38, ← hA38, ← hc38] at hcut38; have HO218 := Aside0.mk (show Kd.V Kd.string 9 _ w.heap.size _ (.slice A38 y214.length c38) y214 from Kd.V_mk (by rw [hy38, hc38]; exact Nat.sub_le_sub_right hroom38 _) hr38); have HC218 := Aside0.mk (show y214.length ≤ c38 from by rw [hy38, hc38]; exact Nat.sub_le_sub_right hroom38 _); clear hr38 hC38 hroom38 hi038 hsz38 hc38; have KY38 := Aside0.mk hy38; have KA38 := Aside0.mk hA38; clear hy38 hA38; replace q38 := eq_true q38) | ((with_reducible refine gate_callee (f := 33) rfl ?_); refine goesL_ (some 34) rfl rfl Try.func33 (by kernel_rfl) rfl #[.slice A38 y214.length c38, .int .u8 43] rfl (by (try simp only [List.map_toArray, List.map_cons, List.map_nil]); first | done | rfl | (simp only [List.length_drop, List.length_take]; rfl)) ?_; (with_reducible refine (hunk_run.calls k1 _ _ y214 43 t219 _ ?side1 ?side2 A19.out).mono ?_); (case side1 => repeat (first | exact (Kd.V_reads' HO218.out).2.2 | (with_reducible refine Kd.C_alloc ?_ _) | (with_reducible refine Kd.C_drewN ?_ _) | (with_reducible refine Kd.C_drew ?_))); (case side2 => exact (Kd.V_reads' HO218.out).2.1); rintro e w' ⟨rfl, ⟨nd, rfl⟩⟩; refine ⟨_, rfl, ?_⟩; (try (rw [drewN_self wr]; generalize hq_ : World.drewN wr _ = wr; have n0_ : Aside0 (Kd.V Kd.string 9 wr w.heap.size (fun k_ => (P0_4_ k_ ∨ w.heap.size ≤ k_) ∧ some k_ ≠ (u207004 : Value).ownBlock ∧ k_ ≠ gb204 ∧ k_ ≠ gb205 ∧ k_ ≠ gb206) (.slice A37 y208.length c37) y208) := ⟨by rw [← hq_]; exact (by (with_reducible repeat (first | apply Kd.V_alloc | apply Kd.V_drewN | apply Kd.V_drew)); exact HO212.out)⟩; have n1_ : Aside0 (Kd.V Kd.string 9 wr w.heap.size (fun k_ => (P0_4_ k_ ∨ w.heap.size ≤ k_) ∧ some k_ ≠ (u207004 : Value).ownBlock ∧ k_ ≠ gb204 ∧ k_ ≠ gb205 ∧ k_ ≠ gb206) (.slice A38 y214.length c38) y214) := ⟨by rw [← hq_]; exact (by (with_reducible repeat (first | apply Kd.V_alloc | apply Kd.V_drewN | apply Kd.V_drew)); exact HO218.out)⟩; have n2_ : Aside0 (Kd.V Kd.string 9 wr w.heap.size (fun k_ => (P0_4_ k_ ∨ w.heap.size ≤ k_) ∧ some k_ ≠ (u207004 : Value).ownBlock ∧ k_ ≠ gb204 ∧ k_ ≠ gb205 ∧ k_ ≠ gb206) (.slice A0_4 l0_4.length c0_4) l0_4) := ⟨by rw [← hq_]; exact (by (with_reducible repeat (first | apply Kd.V_alloc | apply Kd.V_drewN | apply Kd.V_drew)); exact HO_205004.out)⟩; have n3_ : Aside0 (Kd.R Kd.string 9 wr w.heap.size (fun k_ => (w.heap.size ≤ k_)) u207004 x207004_1) := ⟨by rw [← hq_]; exact (by (with_reducible repeat (first | apply Kd.R_alloc | apply Kd.R_drewN | apply Kd.R_drew)); exact HO_207004.out)⟩; have n4_ : Aside0 (Kd.V Kd.string 9 wr w.heap.size (fun k_ => (P0_4_ k_ ∨ w.heap.size ≤ k_) ∧ some k_ ≠ (u207004 : Value).ownBlock ∧ k_ ≠ gb204 ∧ k_ ≠ gb205 ∧ k_ ≠ gb206) (.slice Ao36 x4_1.length co36) x4_1) := ⟨by rw [← hq_]; exact (by (with_reducible repeat (first | apply Kd.V_alloc | apply Kd.V_drewN | apply Kd.V_drew)); exact HO_4.out)⟩; have n5_ : Aside0 (wr.heap[gb204]? = some (.cells #[.int .i64 a0_0, .int .i64 a0_1, .int .i64 a0_2, .int .i64 a0_3, .slice A0_4 l0_4.length c0_4] 33 (0, 0))) := ⟨by rw [← hq_]; exact (by (with_reducible repeat (first | refine blk_drewN ?_ _ | refine blk_drew ?_ | refine blk_alloc ?_ _)); exact BK204.out)⟩; have n6_ : Aside0 (wr.heap[gb205]? = some (.cells #[.int .i64 0, .int .i64 0, .int .i64 0, .int .i64 0, .slice none 0 0] 33 (0, 0))) := ⟨by rw [← hq_]; exact (by (with_reducible repeat (first | refine blk_drewN ?_ _ | refine blk_drew ?_ | refine blk_alloc ?_ _)); exact BK205.out)⟩; have n7_ : Aside0 (wr.heap[gb206]? = some (.cells #[.int .i64 a0_2, .int .i64 a0_3, .int .i64 a0_0, .int .i64 a0_1, u207004] 33 (0, 0))) := ⟨by rw [← hq_]; exact (by (with_reducible repeat (first | refine blk_drewN ?_ _ | refine blk_drew ?_ | refine blk_alloc ?_ _)); exact BK206.out)⟩; have n8_ : Aside0 (Below w.heap.size w wr) := ⟨by rw [← hq_]; exact (by repeat (first | (with_reducible first | exact HB.out | apply below_alloc | apply pw_below_drewN | apply below_drew1 | refine below_set ?_ GE204.out | refine below_set ?_ GE205.out | refine below_set ?_ GE206.out) | exact HB.out))⟩; clear HO212 HO218 HO_205004 HO_207004 HO_4 BK204 BK205 BK206 HB hq_; have HO212 := n0_; have HO218 := n1_; have HO_205004 := n2_; have HO_207004 := n3_; have HO_4 := n4_; have BK204 := n5_; have BK205 := n6_; have BK206 := n7_; have HB := n8_; clear n0_ n1_ n2_ n3_ n4_ n5_ n6_ n7_ n8_))))
            have n0_ := Aside0.mk (Kd.V_drew HO_4.out)
            have n1_ := Aside0.mk (Kd.V_drew HO_205004.out)
            have n2_ := Aside0.mk (Kd.R_drew HO_207004.out)
            have n3_ := Aside0.mk (Kd.V_drew HO212.out)
            have n4_ := Aside0.mk (Kd.V_drew HO218.out)
            have n5_ := Aside0.mk (blk_drew BK204.out)
            have n6_ := Aside0.mk (blk_drew BK205.out)
            have n7_ := Aside0.mk (blk_drew BK206.out)
            have n8_ := Aside0.mk (below_drew1 HB.out)
            clear HO_4
            clear HO_205004
            clear HO_207004
            clear HO212
            clear HO218
            clear BK204
            clear BK205
            clear BK206
            clear HB
            have HO_4 := n0_
            have HO_205004 := n1_
            have HO_207004 := n2_
            have HO212 := n3_
            have HO218 := n4_
            have BK204 := n5_
            have BK205 := n6_
            have BK206 := n7_
            have HB := n8_
            clear n0_ n1_ n2_ n3_ n4_ n5_ n6_ n7_ n8_
            have q40 : (t207 : Int) ≤ ((x4_1.length : Int) : Int) := of_decide_eq_true (by first | (with_reducible assumption) | assumption)
            obtain ⟨i040, hi040, _, hsz40, _⟩ := info_parts info9
            have hroom40 : x4_1.length ≤ co36 := (Kd.V_reads' HO_4.out).2.1
            have hC40 : Kd.F Kd.string _ _ Ao36 x4_1.length x4_1 := (Kd.V_at (base := w.heap.size) HO_4.out).2.2
            have hcut40 := cut_to (P := Try.prog) 22 9 .i64 Try.underlying22 hi040 Ao36 x4_1.length co36 t207 (of_decide_eq_true (by first | (with_reducible assumption) | assumption)) q40 hroom40
            have hr40 := Kd.F_take (m := (t207 : Int).toNat) hC40 (by omega)
            have hy40 : y220.length = (t207 : Int).toNat := (by rw [Ny220.out, List.length_take]; omega)
            rw [← Ny220.out] at hr40
            rw [← hy40] at hcut40
            have HO224 := Aside0.mk (show Kd.V Kd.string 9 _ w.heap.size _ (.slice Ao36 y220.length co36) y220 from Kd.V_mk (by omega) hr40)
            have HC224 := Aside0.mk (show y220.length ≤ co36 from by omega)
            clear hr40 hC40 hroom40 hi040 hsz40
            have KY40 := Aside0.mk hy40
            clear hy40
            replace q40 := eq_true q40
            have q41 : ((ji33) : Int) ≤ ((x4_1.length : Int) : Int) := of_decide_eq_true (by first | (with_reducible assumption) | assumption)
            obtain ⟨i041, hi041, _, hsz41, _⟩ := info_parts info9
            have hroom41 : x4_1.length ≤ co36 := (Kd.V_reads' HO_4.out).2.1
            have hC41 : Kd.F Kd.string _ _ Ao36 x4_1.length x4_1 := (Kd.V_at (base := w.heap.size) HO_4.out).2.2
            have ql41 : ((ji16) : Int) ≤ ((ji33) : Int) := of_decide_eq_true (by first | (with_reducible assumption) | assumption)
            have q041 : (0 : Int) ≤ ((ji16) : Int) := of_decide_eq_true (by first | (with_reducible assumption) | assumption)
            have hcut41 := cut_mid (P := Try.prog) 22 9 .i64 .i64 Try.underlying22 hi041 1 hsz41 Ao36 x4_1.length co36 (ji16) (ji33) q041 ql41 q41 hroom41
            have hr41 := Kd.F_mid (lo := ((ji16) : Int).toNat) (hi := ((ji33) : Int).toNat) (c := co36) hC41 (by omega) (by omega) hroom41
            obtain ⟨A41, hA41⟩ : ∃ A1, A1 = (if co36 = ((ji16) : Int).toNat then Ao36 else (Ao36 : Option Addr).map (·.add (((ji16) : Int).toNat * 1))) := ⟨_, rfl⟩
            obtain ⟨c41, hc41⟩ : ∃ c1, c1 = co36 - ((ji16) : Int).toNat := ⟨_, rfl⟩
            have hy41 : y225.length = ((ji33) : Int).toNat - ((ji16) : Int).toNat := (by rw [Ny225.out, List.length_drop, List.length_take] <;> omega)
            rw [show ((x4_1).take ((ji33) : Int).toNat).drop ((ji16) : Int).toNat = y225 from Ny225.out.symm] at hr41
            replace hr41 : Kd.F Kd.string _ _ A41 y225.length y225 := (by rw [hA41]; exact hr41)
            rw [← hy41, ← hA41, ← hc41] at hcut41
            have HO229 := Aside0.mk (show Kd.V Kd.string 9 _ w.heap.size _ (.slice A41 y225.length c41) y225 from Kd.V_mk (by rw [hy41, hc41]; exact Nat.sub_le_sub_right (Nat.le_trans (by omega) hroom41) _) hr41)
            have HC229 := Aside0.mk (show y225.length ≤ c41 from by rw [hy41, hc41]; exact Nat.sub_le_sub_right (Nat.le_trans (by omega) hroom41) _)
            clear hr41 hC41 hroom41 hi041 hsz41 hc41
            have KY41 := Aside0.mk hy41
            have KA41 := Aside0.mk hA41
            clear hy41 hA41
            replace q41 := eq_true q41
            have q42 : ((ji16) : Int) ≤ ((x4_1.length : Int) : Int) := of_decide_eq_true (by first | (with_reducible assumption) | assumption)
            obtain ⟨i042, hi042, _, hsz42, _⟩ := info_parts info9
            have hroom42 : x4_1.length ≤ co36 := (Kd.V_reads' HO_4.out).2.1
            have hC42 : Kd.F Kd.string _ _ Ao36 x4_1.length x4_1 := (Kd.V_at (base := w.heap.size) HO_4.out).2.2
            have ql42 : (t207 : Int) ≤ ((ji16) : Int) := of_decide_eq_true (by first | (with_reducible assumption) | assumption)
            have q042 : (0 : Int) ≤ (t207 : Int) := of_decide_eq_true (by first | (with_reducible assumption) | assumption)
            have hcut42 := cut_mid (P := Try.prog) 22 9 .i64 .i64 Try.underlying22 hi042 1 hsz42 Ao36 x4_1.length co36 t207 (ji16) q042 ql42 q42 hroom42
            have hr42 := Kd.F_mid (lo := (t207 : Int).toNat) (hi := ((ji16) : Int).toNat) (c := co36) hC42 (by omega) (by omega) hroom42
            obtain ⟨A42, hA42⟩ : ∃ A1, A1 = (if co36 = (t207 : Int).toNat then Ao36 else (Ao36 : Option Addr).map (·.add ((t207 : Int).toNat * 1))) := ⟨_, rfl⟩
            obtain ⟨c42, hc42⟩ : ∃ c1, c1 = co36 - (t207 : Int).toNat := ⟨_, rfl⟩
            have hy42 : y236.length = ((ji16) : Int).toNat - (t207 : Int).toNat := (by rw [Ny236.out, List.length_drop, List.length_take] <;> omega)
            rw [show ((x4_1).take ((ji16) : Int).toNat).drop (t207 : Int).toNat = y236 from Ny236.out.symm] at hr42
            replace hr42 : Kd.F Kd.string _ _ A42 y236.length y236 := (by rw [hA42]; exact hr42)
            rw [← hy42, ← hA42, ← hc42] at hcut42
            have HO240 := Aside0.mk (show Kd.V Kd.string 9 _ w.heap.size _ (.slice A42 y236.length c42) y236 from Kd.V_mk (by rw [hy42, hc42]; exact Nat.sub_le_sub_right (Nat.le_trans (by omega) hroom42) _) hr42)
            have HC240 := Aside0.mk (show y236.length ≤ c42 from by rw [hy42, hc42]; exact Nat.sub_le_sub_right (Nat.le_trans (by omega) hroom42) _)
            clear hr42 hC42 hroom42 hi042 hsz42 hc42
            have KY42 := Aside0.mk hy42
            have KA42 := Aside0.mk hA42
            clear hy42 hA42
            replace q42 := eq_true q42
            refine start_ (n := 21) (S := fun w' => w'.cell? ⟨gb206, 0, none⟩ = some (.int .i64 a0_2) ∧ w'.cell? ⟨gb206, 1, none⟩ = some (.int .i64 a0_3) ∧ w'.cell? ⟨gb206, 2, none⟩ = some (.int .i64 a0_0) ∧ w'.cell? ⟨gb206, 3, none⟩ = some (.int .i64 a0_1) ∧ w'.cell? ⟨gb206, 4, none⟩ = some (u207004)) (ds := [20]) #[false, false, false, false, false, false, false, false, false, false, false, false, false, false, false, false, false, false, false, false, false] (by kernel_rfl) rfl rfl ⟨(blk_cell BK206.out 0).trans rfl, (blk_cell BK206.out 1).trans rfl, (blk_cell BK206.out 2).trans rfl, (blk_cell BK206.out 3).trans rfl, (blk_cell BK206.out 4).trans rfl⟩ (fun hHeld => ?_); refine with_tabW hunk_Turn.tab7 hunk_Turn.bits7 (fun HT_ HW_ => ?_)
            generalize wr.drew = w39 at HO_4 HO_205004 HO_207004 HO212 HO218 BK204 BK205 BK206 HB HO224 HO229 HO240 hHeld ⊢
            refine pure_ (i := 0) (N := some 36) (v := ?_) (a' := ?_) #[true, false, false, false, false, false, false, false, false, false, false, false, false, false, false, false, false, false, false, false, false] rfl rfl (any_of HT_.out (by kernel_rfl)) (fun _ _ _ h => h) (Or.inl ⟨by rfl, ?_⟩) ?_ ?_
            rotate_left
            ·intro w'
             go_simp
             with_reducible rfl
            rotate_left
            ·simp only [Act.put, List.setIfInBounds_toArray, List.set_cons_zero, List.set_cons_succ, i64_w, i32_w]
             rfl
            refine pure_ (i := 2) (N := some 38) (v := ?_) (a' := ?_) #[true, false, true, false, false, false, false, false, false, false, false, false, false, false, false, false, false, false, false, false, false] rfl rfl (any_of HT_.out (by kernel_rfl)) (fun _ _ _ h => h) (Or.inl ⟨by rfl, ?_⟩) ?_ ?_
            rotate_left
            ·intro w'
             go_simp
             with_reducible rfl
            rotate_left
            ·simp only [Act.put, List.setIfInBounds_toArray, List.set_cons_zero, List.set_cons_succ, i64_w, i32_w]
             rfl
            refine pure_ (i := 3) (N := some 39) (v := ?_) (a' := ?_) #[true, false, true, true, false, false, false, false, false, false, false, false, false, false, false, false, false, false, false, false, false] rfl rfl (any_of HT_.out (by kernel_rfl)) (fun _ _ _ h => h) (Or.inl ⟨by rfl, ?_⟩) ?_ ?_
            rotate_left
            ·intro w'
             go_simp
             with_reducible rfl
            rotate_left
            ·simp only [Act.put, List.setIfInBounds_toArray, List.set_cons_zero, List.set_cons_succ, i64_w, i32_w]
             rfl
            refine pure_ (i := 4) (N := some 40) (v := ?_) (a' := ?_) #[true, false, true, true, true, false, false, false, false, false, false, false, false, false, false, false, false, false, false, false, false] rfl rfl (any_of HT_.out (by kernel_rfl)) (fun _ _ _ h => h) (Or.inl ⟨by rfl, ?_⟩) ?_ ?_
            rotate_left
            ·intro w'
             go_simp
             with_reducible rfl
            rotate_left
            ·simp only [Act.put, List.setIfInBounds_toArray, List.set_cons_zero, List.set_cons_succ, i64_w, i32_w]
             rfl
            refine pure_ (i := 5) (N := some 41) (v := ?_) (a' := ?_) #[true, false, true, true, true, true, false, false, false, false, false, false, false, false, false, false, false, false, false, false, false] rfl rfl (any_of HT_.out (by kernel_rfl)) (fun _ _ _ h => h) (Or.inl ⟨by rfl, ?_⟩) ?_ ?_
            rotate_left
            ·intro w'
             go_simp
             with_reducible rfl
            rotate_left
            ·simp only [Act.put, List.setIfInBounds_toArray, List.set_cons_zero, List.set_cons_succ, i64_w, i32_w]
             rfl
            refine pure_ (i := 6) (N := some 42) (v := ?_) (a' := ?_) #[true, false, true, true, true, true, true, false, false, false, false, false, false, false, false, false, false, false, false, false, false] rfl rfl (any_of HT_.out (by kernel_rfl)) (fun _ _ _ h => h) (Or.inl ⟨by rfl, ?_⟩) ?_ ?_
            rotate_left
            ·intro w'
             go_simp
             with_reducible rfl
            rotate_left
            ·simp only [Act.put, List.setIfInBounds_toArray, List.set_cons_zero, List.set_cons_succ, i64_w, i32_w]
             rfl
            refine pure_ (i := 7) (N := some 43) (v := ?_) (a' := ?_) #[true, false, true, true, true, true, true, true, false, false, false, false, false, false, false, false, false, false, false, false, false] rfl rfl (any_of HT_.out (by kernel_rfl)) (fun _ _ _ h => h) (Or.inl ⟨by rfl, ?_⟩) ?_ ?_
            rotate_left
            ·intro w'
             go_simp
             with_reducible rfl
            rotate_left
            ·simp only [Act.put, List.setIfInBounds_toArray, List.set_cons_zero, List.set_cons_succ, i64_w, i32_w]
             rfl
            refine pure_ (i := 8) (N := some 44) (v := ?_) (a' := ?_) #[true, false, true, true, true, true, true, true, true, false, false, false, false, false, false, false, false, false, false, false, false] rfl rfl (any_of HT_.out (by kernel_rfl)) (fun _ _ _ h => h) (Or.inl ⟨by rfl, ?_⟩) ?_ ?_
            rotate_left
            ·intro w'
             go_simp
             with_reducible rfl
            rotate_left
            ·simp only [Act.put, List.setIfInBounds_toArray, List.set_cons_zero, List.set_cons_succ, i64_w, i32_w]
             rfl
            refine pure_ (i := 11) (N := some 47) (v := ?_) (a' := ?_) #[true, false, true, true, true, true, true, true, true, false, false, true, false, false, false, false, false, false, false, false, false] rfl rfl (any_of HT_.out (by kernel_rfl)) (fun _ _ _ h => h) (Or.inl ⟨by rfl, ?_⟩) ?_ ?_
            rotate_left
            ·intro w'
             go_simp
             with_reducible rfl
            rotate_left
            ·simp only [Act.put, List.setIfInBounds_toArray, List.set_cons_zero, List.set_cons_succ, i64_w, i32_w]
             rfl
            refine pure_ (i := 12) (N := some 48) (v := ?_) (a' := ?_) #[true, false, true, true, true, true, true, true, true, false, false, true, true, false, false, false, false, false, false, false, false] rfl rfl (any_of HT_.out (by kernel_rfl)) (fun _ _ _ h => h) (Or.inl ⟨by rfl, ?_⟩) ?_ ?_
            rotate_left
            ·intro w'
             go_simp
             with_reducible rfl
            rotate_left
            ·simp only [Act.put, List.setIfInBounds_toArray, List.set_cons_zero, List.set_cons_succ, i64_w, i32_w]
             rfl
            refine pure_ (i := 13) (N := some 49) (v := ?_) (a' := ?_) #[true, false, true, true, true, true, true, true, true, false, false, true, true, true, false, false, false, false, false, false, false] rfl rfl (any_of HT_.out (by kernel_rfl)) (fun _ _ _ h => h) (Or.inl ⟨by rfl, ?_⟩) ?_ ?_
            rotate_left
            ·intro w'
             go_simp
             with_reducible rfl
            rotate_left
            ·simp only [Act.put, List.setIfInBounds_toArray, List.set_cons_zero, List.set_cons_succ, i64_w, i32_w]
             rfl
            refine pure_ (i := 14) (N := some 50) (v := ?_) (a' := ?_) #[true, false, true, true, true, true, true, true, true, false, false, true, true, true, true, false, false, false, false, false, false] rfl rfl (any_of HT_.out (by kernel_rfl)) (fun _ _ _ h => h) (Or.inl ⟨by rfl, ?_⟩) ?_ ?_
            rotate_left
            ·intro w'
             go_simp
             with_reducible rfl
            rotate_left
            ·simp only [Act.put, List.setIfInBounds_toArray, List.set_cons_zero, List.set_cons_succ, i64_w, i32_w]
             rfl
            refine take_ (i := 1) (N := some 37) (v := ?_) (a' := ?_) #[true, true, true, true, true, true, true, true, true, false, false, true, true, true, true, false, false, false, false, false, false] rfl rfl (take_ofW HT_.out HW_.out (by kernel_rfl)) (fun _ _ _ h => h) (Or.inl ⟨by rfl, ?_⟩) hHeld ?_ ?_
            rotate_left
            ·rintro w' ⟨s0, s1, s2, s3, s4⟩
             go_simp
             with_reducible rfl
            rotate_left
            ·simp only [Act.put, List.setIfInBounds_toArray, List.set_cons_zero, List.set_cons_succ, i64_w, i32_w]
             rfl
            refine one_ (i := 9) (N := some 45) #[true, true, true, true, true, true, true, true, true, true, false, true, true, true, true, false, false, false, false, false, false] rfl rfl (one_of HT_.out (by kernel_rfl)) (by decide) (fun K hK => ?_)
            refine goes_ Try.func36 (by kernel_rfl) rfl #[.slice A41 y225.length c41] (by rfl) rfl rfl (by (try simp only [List.map_toArray, List.map_cons, List.map_nil]); first | done | rfl | (simp only [List.length_drop, List.length_take]; rfl)) ?_
            with_reducible refine (hunk_bare.calls k1 _ _ y225 t230 _ ?side1 ?side2 A25.out).mono ?_
            (case side1 => repeat (first | exact (Kd.V_reads' HO229.out).2.2 | (with_reducible refine Kd.C_alloc ?_ _) | (with_reducible refine Kd.C_drewN ?_ _) | (with_reducible refine Kd.C_drew ?_)))
            (case side2 => exact (Kd.V_reads' HO229.out).2.1)
            rintro e w43 ⟨v231, rfl, ho0, hb⟩
            refine ⟨_, rfl, ?_⟩
            have n0_ := Aside0.mk (Kd.V_elder' (by (with_reducible repeat (first | apply Kd.V_alloc | apply Kd.V_drewN | apply Kd.V_drew)); exact HO_4.out) (Kd.R_base ho0) hb)
            have n1_ := Aside0.mk (Kd.V_elder' (by (with_reducible repeat (first | apply Kd.V_alloc | apply Kd.V_drewN | apply Kd.V_drew)); exact HO_205004.out) (Kd.R_base ho0) hb)
            have n2_ := Aside0.mk (Kd.R_elder' (by (with_reducible repeat (first | apply Kd.R_alloc | apply Kd.R_drewN | apply Kd.R_drew)); exact HO_207004.out) (Kd.R_base ho0) hb)
            have n3_ := Aside0.mk (Kd.V_elder' (by (with_reducible repeat (first | apply Kd.V_alloc | apply Kd.V_drewN | apply Kd.V_drew)); exact HO212.out) (Kd.R_base ho0) hb)
            have n4_ := Aside0.mk (Kd.V_elder' (by (with_reducible repeat (first | apply Kd.V_alloc | apply Kd.V_drewN | apply Kd.V_drew)); exact HO218.out) (Kd.R_base ho0) hb)
            have n5_ := Aside0.mk (Kd.V_elder' (by (with_reducible repeat (first | apply Kd.V_alloc | apply Kd.V_drewN | apply Kd.V_drew)); exact HO224.out) (Kd.R_base ho0) hb)
            have n6_ := Aside0.mk (Kd.V_elder' (by (with_reducible repeat (first | apply Kd.V_alloc | apply Kd.V_drewN | apply Kd.V_drew)); exact HO229.out) (Kd.R_base ho0) hb)
            have n7_ := Aside0.mk (Kd.V_elder' (by (with_reducible repeat (first | apply Kd.V_alloc | apply Kd.V_drewN | apply Kd.V_drew)); exact HO240.out) (Kd.R_base ho0) hb)
            have n8_ := Aside0.mk (Kd.R_lower (Kd.R_new' (Kd.R_newM (M := fun k_ => (w.heap.size ≤ k_)) ho0 (below_size (by repeat (first | (with_reducible first | exact HB.out | apply below_alloc | apply pw_below_drewN | apply below_drew1 | refine below_set ?_ GE204.out | refine below_set ?_ GE205.out | refine below_set ?_ GE206.out) | exact HB.out))) (fun k_ h_ => h_)) (Kd.R_lt (by (with_reducible repeat (first | apply Kd.R_alloc | apply Kd.R_drewN | apply Kd.R_drew)); exact HO_207004.out))) (below_size (by repeat (first | (with_reducible first | exact HB.out | apply below_alloc | apply pw_below_drewN | apply below_drew1 | refine below_set ?_ GE204.out | refine below_set ?_ GE205.out | refine below_set ?_ GE206.out) | exact HB.out))))
            have n9_ := Aside0.mk (blk_below (g := gb204) (o := .cells #[.int .i64 a0_0, .int .i64 a0_1, .int .i64 a0_2, .int .i64 a0_3, .slice A0_4 l0_4.length c0_4] 33 (0, 0)) (by (with_reducible repeat (first | refine blk_drewN ?_ _ | refine blk_drew ?_ | refine blk_alloc ?_ _)); exact BK204.out) hb)
            have n10_ := Aside0.mk (blk_below (g := gb205) (o := .cells #[.int .i64 0, .int .i64 0, .int .i64 0, .int .i64 0, .slice none 0 0] 33 (0, 0)) (by (with_reducible repeat (first | refine blk_drewN ?_ _ | refine blk_drew ?_ | refine blk_alloc ?_ _)); exact BK205.out) hb)
            have n11_ := Aside0.mk (blk_below (g := gb206) (o := .cells #[.int .i64 a0_2, .int .i64 a0_3, .int .i64 a0_0, .int .i64 a0_1, u207004] 33 (0, 0)) (by (with_reducible repeat (first | refine blk_drewN ?_ _ | refine blk_drew ?_ | refine blk_alloc ?_ _)); exact BK206.out) hb)
            have n12_ := Aside0.mk (below_step (by repeat (first | (with_reducible first | exact HB.out | apply below_alloc | apply pw_below_drewN | apply below_drew1 | refine below_set ?_ GE204.out | refine below_set ?_ GE205.out | refine below_set ?_ GE206.out) | exact HB.out)) hb)
            clear HO_4
            clear HO_205004
            clear HO_207004
            clear HO212
            clear HO218
            clear HO224
            clear HO229
            clear HO240
            clear BK204
            clear BK205
            clear BK206
            clear HB
            have HO_4 := n0_
            have HO_205004 := n1_
            have HO_207004 := n2_
            have HO212 := n3_
            have HO218 := n4_
            have HO224 := n5_
            have HO229 := n6_
            have HO240 := n7_
            have HO232 := n8_
            have BK204 := n9_
            have BK205 := n10_
            have BK206 := n11_
            have HB := n12_
            clear n0_ n1_ n2_ n3_ n4_ n5_ n6_ n7_ n8_ n9_ n10_ n11_ n12_
            (try clear hb)
            (try clear hb2)
            (try clear hk)
            (try clear hi)
            (try clear ho0)
            obtain ⟨Ao44, co44, eo44⟩ := Kd.R_slice HO232.out
            (first | subst eo44 | (injection eo44 with f1_ f2_ f3_; have f4_ := f1_.symm; have f5_ := f3_.symm; clear f1_ f2_ f3_; subst f4_; subst f5_))
            refine hK.out _ _ ⟨(blk_cell BK206.out 0).trans rfl, (blk_cell BK206.out 1).trans rfl, (blk_cell BK206.out 2).trans rfl, (blk_cell BK206.out 3).trans rfl, (blk_cell BK206.out 4).trans rfl⟩ (fun hHeld => ?_)
            clear hK K
            refine norm_ (a' := ?_) ?_ ?_
            rotate_left
            ·show Act.put _ (some 45) _ = _
             simp only [Act.put, List.setIfInBounds_toArray, List.set_cons_zero, List.set_cons_succ, i64_w, i32_w]
             rfl
            refine one_ (i := 10) (N := some 46) #[true, true, true, true, true, true, true, true, true, true, true, true, true, true, true, false, false, false, false, false, false] rfl rfl (one_of HT_.out (by kernel_rfl)) (by decide) (fun K hK => ?_)
            refine goes_ Try.func35 (by kernel_rfl) rfl #[.int .u8 45, .slice Ao44 t230.length co44] (by rfl) rfl rfl (by (try simp only [List.map_toArray, List.map_cons, List.map_nil]); first | done | rfl | (simp only [List.length_drop, List.length_take]; rfl)) ?_
            with_reducible refine (hunk_signed.calls k1 45 _ _ t230 t233 _ ?side1 ?side2 A26.out).mono ?_
            (case side1 => repeat (first | exact (Kd.R_reads' HO232.out).2.2 | (with_reducible refine Kd.C_alloc ?_ _) | (with_reducible refine Kd.C_drewN ?_ _) | (with_reducible refine Kd.C_drew ?_)))
            (case side2 => exact (Kd.R_reads' HO232.out).2.1)
            rintro e w45 ⟨v234, rfl, ho0, hb⟩
            refine ⟨_, rfl, ?_⟩
            have n0_ := Aside0.mk (Kd.V_elder' (by (with_reducible repeat (first | apply Kd.V_alloc | apply Kd.V_drewN | apply Kd.V_drew)); exact HO_4.out) (Kd.R_base ho0) hb)
            have n1_ := Aside0.mk (Kd.V_elder' (by (with_reducible repeat (first | apply Kd.V_alloc | apply Kd.V_drewN | apply Kd.V_drew)); exact HO_205004.out) (Kd.R_base ho0) hb)
            have n2_ := Aside0.mk (Kd.R_elder' (by (with_reducible repeat (first | apply Kd.R_alloc | apply Kd.R_drewN | apply Kd.R_drew)); exact HO_207004.out) (Kd.R_base ho0) hb)
            have n3_ := Aside0.mk (Kd.V_elder' (by (with_reducible repeat (first | apply Kd.V_alloc | apply Kd.V_drewN | apply Kd.V_drew)); exact HO212.out) (Kd.R_base ho0) hb)
            have n4_ := Aside0.mk (Kd.V_elder' (by (with_reducible repeat (first | apply Kd.V_alloc | apply Kd.V_drewN | apply Kd.V_drew)); exact HO218.out) (Kd.R_base ho0) hb)
            have n5_ := Aside0.mk (Kd.V_elder' (by (with_reducible repeat (first | apply Kd.V_alloc | apply Kd.V_drewN | apply Kd.V_drew)); exact HO224.out) (Kd.R_base ho0) hb)
            have n6_ := Aside0.mk (Kd.V_elder' (by (with_reducible repeat (first | apply Kd.V_alloc | apply Kd.V_drewN | apply Kd.V_drew)); exact HO229.out) (Kd.R_base ho0) hb)
            have n7_ := Aside0.mk (Kd.V_elder' (by (with_reducible repeat (first | apply Kd.V_alloc | apply Kd.V_drewN | apply Kd.V_drew)); exact HO240.out) (Kd.R_base ho0) hb)
            have n8_ := Aside0.mk (Kd.R_elder' (by (with_reducible repeat (first | apply Kd.R_alloc | apply Kd.R_drewN | apply Kd.R_drew)); exact HO232.out) (Kd.R_base ho0) hb)
            have n9_ := Aside0.mk (Kd.R_lower (Kd.R_new' (Kd.R_new' (Kd.R_newM (M := fun k_ => (w.heap.size ≤ k_)) ho0 (below_size (by repeat (first | (with_reducible first | exact HB.out | apply below_alloc | apply pw_below_drewN | apply below_drew1 | refine below_set ?_ GE204.out | refine below_set ?_ GE205.out | refine below_set ?_ GE206.out) | exact HB.out))) (fun k_ h_ => h_)) (Kd.R_lt (by (with_reducible repeat (first | apply Kd.R_alloc | apply Kd.R_drewN | apply Kd.R_drew)); exact HO_207004.out))) (Kd.R_lt (by (with_reducible repeat (first | apply Kd.R_alloc | apply Kd.R_drewN | apply Kd.R_drew)); exact HO232.out))) (below_size (by repeat (first | (with_reducible first | exact HB.out | apply below_alloc | apply pw_below_drewN | apply below_drew1 | refine below_set ?_ GE204.out | refine below_set ?_ GE205.out | refine below_set ?_ GE206.out) | exact HB.out))))
            have n10_ := Aside0.mk (blk_below (g := gb204) (o := .cells #[.int .i64 a0_0, .int .i64 a0_1, .int .i64 a0_2, .int .i64 a0_3, .slice A0_4 l0_4.length c0_4] 33 (0, 0)) (by (with_reducible repeat (first | refine blk_drewN ?_ _ | refine blk_drew ?_ | refine blk_alloc ?_ _)); exact BK204.out) hb)
            have n11_ := Aside0.mk (blk_below (g := gb205) (o := .cells #[.int .i64 0, .int .i64 0, .int .i64 0, .int .i64 0, .slice none 0 0] 33 (0, 0)) (by (with_reducible repeat (first | refine blk_drewN ?_ _ | refine blk_drew ?_ | refine blk_alloc ?_ _)); exact BK205.out) hb)
            have n12_ := Aside0.mk (blk_below (g := gb206) (o := .cells #[.int .i64 a0_2, .int .i64 a0_3, .int .i64 a0_0, .int .i64 a0_1, u207004] 33 (0, 0)) (by (with_reducible repeat (first | refine blk_drewN ?_ _ | refine blk_drew ?_ | refine blk_alloc ?_ _)); exact BK206.out) hb)
            have n13_ := Aside0.mk (below_step (by repeat (first | (with_reducible first | exact HB.out | apply below_alloc | apply pw_below_drewN | apply below_drew1 | refine below_set ?_ GE204.out | refine below_set ?_ GE205.out | refine below_set ?_ GE206.out) | exact HB.out)) hb)
            clear HO_4
            clear HO_205004
            clear HO_207004
            clear HO212
            clear HO218
            clear HO224
            clear HO229
            clear HO240
            clear HO232
            clear BK204
            clear BK205
            clear BK206
            clear HB
            have HO_4 := n0_
            have HO_205004 := n1_
            have HO_207004 := n2_
            have HO212 := n3_
            have HO218 := n4_
            have HO224 := n5_
            have HO229 := n6_
            have HO240 := n7_
            have HO232 := n8_
            have HO235 := n9_
            have BK204 := n10_
            have BK205 := n11_
            have BK206 := n12_
            have HB := n13_
            clear n0_ n1_ n2_ n3_ n4_ n5_ n6_ n7_ n8_ n9_ n10_ n11_ n12_ n13_
            (try clear hb)
            (try clear hb2)
            (try clear hk)
            (try clear hi)
            (try clear ho0)
            refine hK.out _ _ ⟨(blk_cell BK206.out 0).trans rfl, (blk_cell BK206.out 1).trans rfl, (blk_cell BK206.out 2).trans rfl, (blk_cell BK206.out 3).trans rfl, (blk_cell BK206.out 4).trans rfl⟩ (fun hHeld => ?_)
            clear hK K
            refine norm_ (a' := ?_) ?_ ?_
            rotate_left
            ·show Act.put _ (some 46) _ = _
             simp only [Act.put, List.setIfInBounds_toArray, List.set_cons_zero, List.set_cons_succ, i64_w, i32_w]
             rfl
            refine one_ (i := 15) (N := some 51) #[true, true, true, true, true, true, true, true, true, true, true, true, true, true, true, true, false, false, false, false, false] rfl rfl (one_of HT_.out (by kernel_rfl)) (by decide) (fun K hK => ?_)
            refine goes_ Try.func36 (by kernel_rfl) rfl #[.slice A42 y236.length c42] (by rfl) rfl rfl (by (try simp only [List.map_toArray, List.map_cons, List.map_nil]); first | done | rfl | (simp only [List.length_drop, List.length_take]; rfl)) ?_
            with_reducible refine (hunk_bare.calls k1 _ _ y236 t241 _ ?side1 ?side2 A30.out).mono ?_
            (case side1 => repeat (first | exact (Kd.V_reads' HO240.out).2.2 | (with_reducible refine Kd.C_alloc ?_ _) | (with_reducible refine Kd.C_drewN ?_ _) | (with_reducible refine Kd.C_drew ?_)))
            (case side2 => exact (Kd.V_reads' HO240.out).2.1)
            rintro e w46 ⟨v242, rfl, ho0, hb⟩
            refine ⟨_, rfl, ?_⟩
            have n0_ := Aside0.mk (Kd.V_elder' (by (with_reducible repeat (first | apply Kd.V_alloc | apply Kd.V_drewN | apply Kd.V_drew)); exact HO_4.out) (Kd.R_base ho0) hb)
            have n1_ := Aside0.mk (Kd.V_elder' (by (with_reducible repeat (first | apply Kd.V_alloc | apply Kd.V_drewN | apply Kd.V_drew)); exact HO_205004.out) (Kd.R_base ho0) hb)
            have n2_ := Aside0.mk (Kd.R_elder' (by (with_reducible repeat (first | apply Kd.R_alloc | apply Kd.R_drewN | apply Kd.R_drew)); exact HO_207004.out) (Kd.R_base ho0) hb)
            have n3_ := Aside0.mk (Kd.V_elder' (by (with_reducible repeat (first | apply Kd.V_alloc | apply Kd.V_drewN | apply Kd.V_drew)); exact HO212.out) (Kd.R_base ho0) hb)
            have n4_ := Aside0.mk (Kd.V_elder' (by (with_reducible repeat (first | apply Kd.V_alloc | apply Kd.V_drewN | apply Kd.V_drew)); exact HO218.out) (Kd.R_base ho0) hb)
            have n5_ := Aside0.mk (Kd.V_elder' (by (with_reducible repeat (first | apply Kd.V_alloc | apply Kd.V_drewN | apply Kd.V_drew)); exact HO224.out) (Kd.R_base ho0) hb)
            have n6_ := Aside0.mk (Kd.V_elder' (by (with_reducible repeat (first | apply Kd.V_alloc | apply Kd.V_drewN | apply Kd.V_drew)); exact HO229.out) (Kd.R_base ho0) hb)
            have n7_ := Aside0.mk (Kd.V_elder' (by (with_reducible repeat (first | apply Kd.V_alloc | apply Kd.V_drewN | apply Kd.V_drew)); exact HO240.out) (Kd.R_base ho0) hb)
            have n8_ := Aside0.mk (Kd.R_elder' (by (with_reducible repeat (first | apply Kd.R_alloc | apply Kd.R_drewN | apply Kd.R_drew)); exact HO232.out) (Kd.R_base ho0) hb)
            have n9_ := Aside0.mk (Kd.R_elder' (by (with_reducible repeat (first | apply Kd.R_alloc | apply Kd.R_drewN | apply Kd.R_drew)); exact HO235.out) (Kd.R_base ho0) hb)
            have n10_ := Aside0.mk (Kd.R_lower (Kd.R_new' (Kd.R_new' (Kd.R_new' (Kd.R_newM (M := fun k_ => (w.heap.size ≤ k_)) ho0 (below_size (by repeat (first | (with_reducible first | exact HB.out | apply below_alloc | apply pw_below_drewN | apply below_drew1 | refine below_set ?_ GE204.out | refine below_set ?_ GE205.out | refine below_set ?_ GE206.out) | exact HB.out))) (fun k_ h_ => h_)) (Kd.R_lt (by (with_reducible repeat (first | apply Kd.R_alloc | apply Kd.R_drewN | apply Kd.R_drew)); exact HO_207004.out))) (Kd.R_lt (by (with_reducible repeat (first | apply Kd.R_alloc | apply Kd.R_drewN | apply Kd.R_drew)); exact HO232.out))) (Kd.R_lt (by (with_reducible repeat (first | apply Kd.R_alloc | apply Kd.R_drewN | apply Kd.R_drew)); exact HO235.out))) (below_size (by repeat (first | (with_reducible first | exact HB.out | apply below_alloc | apply pw_below_drewN | apply below_drew1 | refine below_set ?_ GE204.out | refine below_set ?_ GE205.out | refine below_set ?_ GE206.out) | exact HB.out))))
            have n11_ := Aside0.mk (blk_below (g := gb204) (o := .cells #[.int .i64 a0_0, .int .i64 a0_1, .int .i64 a0_2, .int .i64 a0_3, .slice A0_4 l0_4.length c0_4] 33 (0, 0)) (by (with_reducible repeat (first | refine blk_drewN ?_ _ | refine blk_drew ?_ | refine blk_alloc ?_ _)); exact BK204.out) hb)
            have n12_ := Aside0.mk (blk_below (g := gb205) (o := .cells #[.int .i64 0, .int .i64 0, .int .i64 0, .int .i64 0, .slice none 0 0] 33 (0, 0)) (by (with_reducible repeat (first | refine blk_drewN ?_ _ | refine blk_drew ?_ | refine blk_alloc ?_ _)); exact BK205.out) hb)
            have n13_ := Aside0.mk (blk_below (g := gb206) (o := .cells #[.int .i64 a0_2, .int .i64 a0_3, .int .i64 a0_0, .int .i64 a0_1, u207004] 33 (0, 0)) (by (with_reducible repeat (first | refine blk_drewN ?_ _ | refine blk_drew ?_ | refine blk_alloc ?_ _)); exact BK206.out) hb)
            have n14_ := Aside0.mk (below_step (by repeat (first | (with_reducible first | exact HB.out | apply below_alloc | apply pw_below_drewN | apply below_drew1 | refine below_set ?_ GE204.out | refine below_set ?_ GE205.out | refine below_set ?_ GE206.out) | exact HB.out)) hb)
            clear HO_4
            clear HO_205004
            clear HO_207004
            clear HO212
            clear HO218
            clear HO224
            clear HO229
            clear HO240
            clear HO232
            clear HO235
            clear BK204
            clear BK205
            clear BK206
            clear HB
            have HO_4 := n0_
            have HO_205004 := n1_
            have HO_207004 := n2_
            have HO212 := n3_
            have HO218 := n4_
            have HO224 := n5_
            have HO229 := n6_
            have HO240 := n7_
            have HO232 := n8_
            have HO235 := n9_
            have HO243 := n10_
            have BK204 := n11_
            have BK205 := n12_
            have BK206 := n13_
            have HB := n14_
            clear n0_ n1_ n2_ n3_ n4_ n5_ n6_ n7_ n8_ n9_ n10_ n11_ n12_ n13_ n14_
            (try clear hb)
            (try clear hb2)
            (try clear hk)
            (try clear hi)
            (try clear ho0)
            obtain ⟨Ao47, co47, eo47⟩ := Kd.R_slice HO243.out
            (first | subst eo47 | (injection eo47 with f1_ f2_ f3_; have f4_ := f1_.symm; have f5_ := f3_.symm; clear f1_ f2_ f3_; subst f4_; subst f5_))
            refine hK.out _ _ ⟨(blk_cell BK206.out 0).trans rfl, (blk_cell BK206.out 1).trans rfl, (blk_cell BK206.out 2).trans rfl, (blk_cell BK206.out 3).trans rfl, (blk_cell BK206.out 4).trans rfl⟩ (fun hHeld => ?_)
            clear hK K
            refine norm_ (a' := ?_) ?_ ?_
            rotate_left
            ·show Act.put _ (some 51) _ = _
             simp only [Act.put, List.setIfInBounds_toArray, List.set_cons_zero, List.set_cons_succ, i64_w, i32_w]
             rfl
            refine one_ (i := 16) (N := some 52) #[true, true, true, true, true, true, true, true, true, true, true, true, true, true, true, true, true, false, false, false, false] rfl rfl (one_of HT_.out (by kernel_rfl)) (by decide) (fun K hK => ?_)
            refine goes_ Try.func35 (by kernel_rfl) rfl #[.int .u8 43, .slice Ao47 t241.length co47] (by rfl) rfl rfl (by (try simp only [List.map_toArray, List.map_cons, List.map_nil]); first | done | rfl | (simp only [List.length_drop, List.length_take]; rfl)) ?_
            with_reducible refine (hunk_signed.calls k1 43 _ _ t241 t244 _ ?side1 ?side2 A31.out).mono ?_
            (case side1 => repeat (first | exact (Kd.R_reads' HO243.out).2.2 | (with_reducible refine Kd.C_alloc ?_ _) | (with_reducible refine Kd.C_drewN ?_ _) | (with_reducible refine Kd.C_drew ?_)))
            (case side2 => exact (Kd.R_reads' HO243.out).2.1)
            rintro e w48 ⟨v245, rfl, ho0, hb⟩
            refine ⟨_, rfl, ?_⟩
            have n0_ := Aside0.mk (Kd.V_elder' (by (with_reducible repeat (first | apply Kd.V_alloc | apply Kd.V_drewN | apply Kd.V_drew)); exact HO_4.out) (Kd.R_base ho0) hb)
            have n1_ := Aside0.mk (Kd.V_elder' (by (with_reducible repeat (first | apply Kd.V_alloc | apply Kd.V_drewN | apply Kd.V_drew)); exact HO_205004.out) (Kd.R_base ho0) hb)
            have n2_ := Aside0.mk (Kd.R_elder' (by (with_reducible repeat (first | apply Kd.R_alloc | apply Kd.R_drewN | apply Kd.R_drew)); exact HO_207004.out) (Kd.R_base ho0) hb)
            have n3_ := Aside0.mk (Kd.V_elder' (by (with_reducible repeat (first | apply Kd.V_alloc | apply Kd.V_drewN | apply Kd.V_drew)); exact HO212.out) (Kd.R_base ho0) hb)
            have n4_ := Aside0.mk (Kd.V_elder' (by (with_reducible repeat (first | apply Kd.V_alloc | apply Kd.V_drewN | apply Kd.V_drew)); exact HO218.out) (Kd.R_base ho0) hb)
            have n5_ := Aside0.mk (Kd.V_elder' (by (with_reducible repeat (first | apply Kd.V_alloc | apply Kd.V_drewN | apply Kd.V_drew)); exact HO224.out) (Kd.R_base ho0) hb)
            have n6_ := Aside0.mk (Kd.V_elder' (by (with_reducible repeat (first | apply Kd.V_alloc | apply Kd.V_drewN | apply Kd.V_drew)); exact HO229.out) (Kd.R_base ho0) hb)
            have n7_ := Aside0.mk (Kd.V_elder' (by (with_reducible repeat (first | apply Kd.V_alloc | apply Kd.V_drewN | apply Kd.V_drew)); exact HO240.out) (Kd.R_base ho0) hb)
            have n8_ := Aside0.mk (Kd.R_elder' (by (with_reducible repeat (first | apply Kd.R_alloc | apply Kd.R_drewN | apply Kd.R_drew)); exact HO232.out) (Kd.R_base ho0) hb)
            have n9_ := Aside0.mk (Kd.R_elder' (by (with_reducible repeat (first | apply Kd.R_alloc | apply Kd.R_drewN | apply Kd.R_drew)); exact HO235.out) (Kd.R_base ho0) hb)
            have n10_ := Aside0.mk (Kd.R_elder' (by (with_reducible repeat (first | apply Kd.R_alloc | apply Kd.R_drewN | apply Kd.R_drew)); exact HO243.out) (Kd.R_base ho0) hb)
            have n11_ := Aside0.mk (Kd.R_lower (Kd.R_new' (Kd.R_new' (Kd.R_new' (Kd.R_new' (Kd.R_newM (M := fun k_ => (w.heap.size ≤ k_)) ho0 (below_size (by repeat (first | (with_reducible first | exact HB.out | apply below_alloc | apply pw_below_drewN | apply below_drew1 | refine below_set ?_ GE204.out | refine below_set ?_ GE205.out | refine below_set ?_ GE206.out) | exact HB.out))) (fun k_ h_ => h_)) (Kd.R_lt (by (with_reducible repeat (first | apply Kd.R_alloc | apply Kd.R_drewN | apply Kd.R_drew)); exact HO_207004.out))) (Kd.R_lt (by (with_reducible repeat (first | apply Kd.R_alloc | apply Kd.R_drewN | apply Kd.R_drew)); exact HO232.out))) (Kd.R_lt (by (with_reducible repeat (first | apply Kd.R_alloc | apply Kd.R_drewN | apply Kd.R_drew)); exact HO235.out))) (Kd.R_lt (by (with_reducible repeat (first | apply Kd.R_alloc | apply Kd.R_drewN | apply Kd.R_drew)); exact HO243.out))) (below_size (by repeat (first | (with_reducible first | exact HB.out | apply below_alloc | apply pw_below_drewN | apply below_drew1 | refine below_set ?_ GE204.out | refine below_set ?_ GE205.out | refine below_set ?_ GE206.out) | exact HB.out))))
            have n12_ := Aside0.mk (blk_below (g := gb204) (o := .cells #[.int .i64 a0_0, .int .i64 a0_1, .int .i64 a0_2, .int .i64 a0_3, .slice A0_4 l0_4.length c0_4] 33 (0, 0)) (by (with_reducible repeat (first | refine blk_drewN ?_ _ | refine blk_drew ?_ | refine blk_alloc ?_ _)); exact BK204.out) hb)
            have n13_ := Aside0.mk (blk_below (g := gb205) (o := .cells #[.int .i64 0, .int .i64 0, .int .i64 0, .int .i64 0, .slice none 0 0] 33 (0, 0)) (by (with_reducible repeat (first | refine blk_drewN ?_ _ | refine blk_drew ?_ | refine blk_alloc ?_ _)); exact BK205.out) hb)
            have n14_ := Aside0.mk (blk_below (g := gb206) (o := .cells #[.int .i64 a0_2, .int .i64 a0_3, .int .i64 a0_0, .int .i64 a0_1, u207004] 33 (0, 0)) (by (with_reducible repeat (first | refine blk_drewN ?_ _ | refine blk_drew ?_ | refine blk_alloc ?_ _)); exact BK206.out) hb)
            have n15_ := Aside0.mk (below_step (by repeat (first | (with_reducible first | exact HB.out | apply below_alloc | apply pw_below_drewN | apply below_drew1 | refine below_set ?_ GE204.out | refine below_set ?_ GE205.out | refine below_set ?_ GE206.out) | exact HB.out)) hb)
            clear HO_4
            clear HO_205004
            clear HO_207004
            clear HO212
            clear HO218
            clear HO224
            clear HO229
            clear HO240
            clear HO232
            clear HO235
            clear HO243
            clear BK204
            clear BK205
            clear BK206
            clear HB
            have HO_4 := n0_
            have HO_205004 := n1_
            have HO_207004 := n2_
            have HO212 := n3_
            have HO218 := n4_
            have HO224 := n5_
            have HO229 := n6_
            have HO240 := n7_
            have HO232 := n8_
            have HO235 := n9_
            have HO243 := n10_
            have HO246 := n11_
            have BK204 := n12_
            have BK205 := n13_
            have BK206 := n14_
            have HB := n15_
            clear n0_ n1_ n2_ n3_ n4_ n5_ n6_ n7_ n8_ n9_ n10_ n11_ n12_ n13_ n14_ n15_
            (try clear hb)
            (try clear hb2)
            (try clear hk)
            (try clear hi)
            (try clear ho0)
            obtain ⟨Ao49, co49, eo49⟩ := Kd.R_slice HO_207004.out
            (first | subst eo49 | (injection eo49 with f1_ f2_ f3_; have f4_ := f1_.symm; have f5_ := f3_.symm; clear f1_ f2_ f3_; subst f4_; subst f5_))
            obtain ⟨Ao50, co50, eo50⟩ := Kd.R_slice HO235.out
            (first | subst eo50 | (injection eo50 with f1_ f2_ f3_; have f4_ := f1_.symm; have f5_ := f3_.symm; clear f1_ f2_ f3_; subst f4_; subst f5_))
            obtain ⟨Ao51, co51, eo51⟩ := Kd.R_slice HO246.out
            (first | subst eo51 | (injection eo51 with f1_ f2_ f3_; have f4_ := f1_.symm; have f5_ := f3_.symm; clear f1_ f2_ f3_; subst f4_; subst f5_))
            refine hK.out _ _ ⟨(blk_cell BK206.out 0).trans rfl, (blk_cell BK206.out 1).trans rfl, (blk_cell BK206.out 2).trans rfl, (blk_cell BK206.out 3).trans rfl, (blk_cell BK206.out 4).trans rfl⟩ (fun hHeld => ?_)
            clear hK K
            refine norm_ (a' := ?_) ?_ ?_
            rotate_left
            ·show Act.put _ (some 52) _ = _
             simp only [Act.put, List.setIfInBounds_toArray, List.set_cons_zero, List.set_cons_succ, i64_w, i32_w]
             rfl
            refine one_ (i := 17) (N := some 53) #[true, true, true, true, true, true, true, true, true, true, true, true, true, true, true, true, true, true, false, false, false] rfl rfl (one_of HT_.out (by kernel_rfl)) (by decide) (fun K hK => ?_)
            refine Kd.N_lit_step (Kd.slice 9 Kd.string) _ 22 ?hg (N' := 53) ?hd (xs := ([x207004_1, y220, t233, t244] : List (List ByteArray))) (inner := [.slice Ao49 x207004_1.length co49, .slice Ao36 y220.length co36, .slice Ao50 t233.length co50, .slice Ao51 t244.length co51]) (ok := (fun k_ => (P0_4_ k_ ∨ w.heap.size ≤ k_) ∧ some k_ ≠ (.slice Ao44 t230.length co44 : Value).ownBlock ∧ some k_ ≠ (.slice Ao47 t241.length co47 : Value).ownBlock ∧ k_ ≠ gb204 ∧ k_ ≠ gb205 ∧ k_ ≠ gb206)) (okp := (fun k_ => (P0_4_ k_ ∨ w.heap.size ≤ k_) ∧ some k_ ≠ (.slice Ao44 t230.length co44 : Value).ownBlock ∧ some k_ ≠ (.slice Ao47 t241.length co47 : Value).ownBlock ∧ k_ ≠ gb204 ∧ k_ ≠ gb205 ∧ k_ ≠ gb206)) ?hr ?hp (fun _ hk => hk) ((show ∀ k_, w48.heap.size ≤ k_ → (fun k_ => (P0_4_ k_ ∨ w.heap.size ≤ k_) ∧ some k_ ≠ (.slice Ao44 t230.length co44 : Value).ownBlock ∧ some k_ ≠ (.slice Ao47 t241.length co47 : Value).ownBlock ∧ k_ ≠ gb204 ∧ k_ ≠ gb205 ∧ k_ ≠ gb206) k_ from fun k_ hk => ⟨(.inr (Nat.le_trans (below_size (by repeat (first | (with_reducible first | exact HB.out | apply below_alloc | apply pw_below_drewN | apply below_drew1 | refine below_set ?_ GE204.out | refine below_set ?_ GE205.out | refine below_set ?_ GE206.out) | exact HB.out))) hk)), Kd.fresh' (Kd.R_lt (by (with_reducible repeat (first | apply Kd.R_alloc | apply Kd.R_drewN | apply Kd.R_drew)); exact HO232.out)) k_ hk, Kd.fresh' (Kd.R_lt (by (with_reducible repeat (first | apply Kd.R_alloc | apply Kd.R_drewN | apply Kd.R_drew)); exact HO243.out)) k_ hk, Kd.freshB (g := gb204) (o := .cells #[.int .i64 a0_0, .int .i64 a0_1, .int .i64 a0_2, .int .i64 a0_3, .slice A0_4 l0_4.length c0_4] 33 (0, 0)) (by (with_reducible repeat (first | refine blk_drewN ?_ _ | refine blk_drew ?_ | refine blk_alloc ?_ _)); exact BK204.out) k_ hk, Kd.freshB (g := gb205) (o := .cells #[.int .i64 0, .int .i64 0, .int .i64 0, .int .i64 0, .slice none 0 0] 33 (0, 0)) (by (with_reducible repeat (first | refine blk_drewN ?_ _ | refine blk_drew ?_ | refine blk_alloc ?_ _)); exact BK205.out) k_ hk, Kd.freshB (g := gb206) (o := .cells #[.int .i64 a0_2, .int .i64 a0_3, .int .i64 a0_0, .int .i64 a0_1, .slice Ao49 x207004_1.length co49] 33 (0, 0)) (by (with_reducible repeat (first | refine blk_drewN ?_ _ | refine blk_drew ?_ | refine blk_alloc ?_ _)); exact BK206.out) k_ hk⟩) _ (Nat.le_refl _)) (Below.refl _ _) (Nat.le_refl _) (by simp) ?_; (case hd => rfl); (case hg => rfl); (case hr => first | (go_simp; done) | (go_simp; rfl)); (case hp => exact (Reps.one (show Kd.FK (Kd.slice 9 Kd.string) _ _ x207004_1 [.slice Ao49 x207004_1.length co49] from (Kd.FK_slice_mk (Kd.R_reads' (Kd.R_mono (ok' := (fun k_ => (P0_4_ k_ ∨ w.heap.size ≤ k_) ∧ some k_ ≠ (.slice Ao44 t230.length co44 : Value).ownBlock ∧ some k_ ≠ (.slice Ao47 t241.length co47 : Value).ownBlock ∧ k_ ≠ gb204 ∧ k_ ≠ gb205 ∧ k_ ≠ gb206)) (Kd.R_types (Kd.R_types (Kd.R_types (HO_207004.out) BK204.out (by decide)) BK205.out (by decide)) BK206.out (by decide)) (fun k_ hk => ⟨(.inr (hk.1.1.1.1.1.1.1)), ⟨hk.1.1.1.1.1.1.2, ⟨hk.1.1.1.1.2, ⟨hk.1.1.2, ⟨hk.1.2, hk.2⟩⟩⟩⟩⟩))).2.1 (Kd.R_F (Kd.R_mono (ok' := (fun k_ => (P0_4_ k_ ∨ w.heap.size ≤ k_) ∧ some k_ ≠ (.slice Ao44 t230.length co44 : Value).ownBlock ∧ some k_ ≠ (.slice Ao47 t241.length co47 : Value).ownBlock ∧ k_ ≠ gb204 ∧ k_ ≠ gb205 ∧ k_ ≠ gb206)) (Kd.R_types (Kd.R_types (Kd.R_types (HO_207004.out) BK204.out (by decide)) BK205.out (by decide)) BK206.out (by decide)) (fun k_ hk => ⟨(.inr (hk.1.1.1.1.1.1.1)), ⟨hk.1.1.1.1.1.1.2, ⟨hk.1.1.1.1.2, ⟨hk.1.1.2, ⟨hk.1.2, hk.2⟩⟩⟩⟩⟩))))) (Reps.one (show Kd.FK (Kd.slice 9 Kd.string) _ _ y220 [.slice Ao36 y220.length co36] from (Kd.FK_slice_mk (Kd.V_reads' (Kd.V_mono (ok' := (fun k_ => (P0_4_ k_ ∨ w.heap.size ≤ k_) ∧ some k_ ≠ (.slice Ao44 t230.length co44 : Value).ownBlock ∧ some k_ ≠ (.slice Ao47 t241.length co47 : Value).ownBlock ∧ k_ ≠ gb204 ∧ k_ ≠ gb205 ∧ k_ ≠ gb206)) (HO224.out) (fun k_ hk => ⟨hk.1.1.1.1.1, ⟨hk.1.1.1.2, ⟨hk.1.2, ⟨hk.1.1.1.1.2.2.1, ⟨hk.1.1.1.1.2.2.2.1, hk.1.1.1.1.2.2.2.2⟩⟩⟩⟩⟩))).2.1 (Kd.V_F (Kd.V_mono (ok' := (fun k_ => (P0_4_ k_ ∨ w.heap.size ≤ k_) ∧ some k_ ≠ (.slice Ao44 t230.length co44 : Value).ownBlock ∧ some k_ ≠ (.slice Ao47 t241.length co47 : Value).ownBlock ∧ k_ ≠ gb204 ∧ k_ ≠ gb205 ∧ k_ ≠ gb206)) (HO224.out) (fun k_ hk => ⟨hk.1.1.1.1.1, ⟨hk.1.1.1.2, ⟨hk.1.2, ⟨hk.1.1.1.1.2.2.1, ⟨hk.1.1.1.1.2.2.2.1, hk.1.1.1.1.2.2.2.2⟩⟩⟩⟩⟩))))) (Reps.one (show Kd.FK (Kd.slice 9 Kd.string) _ _ t233 [.slice Ao50 t233.length co50] from (Kd.FK_slice_mk (Kd.R_reads' (Kd.R_mono (ok' := (fun k_ => (P0_4_ k_ ∨ w.heap.size ≤ k_) ∧ some k_ ≠ (.slice Ao44 t230.length co44 : Value).ownBlock ∧ some k_ ≠ (.slice Ao47 t241.length co47 : Value).ownBlock ∧ k_ ≠ gb204 ∧ k_ ≠ gb205 ∧ k_ ≠ gb206)) (Kd.R_types (Kd.R_types (Kd.R_types (HO235.out) BK204.out (by decide)) BK205.out (by decide)) BK206.out (by decide)) (fun k_ hk => ⟨(.inr (hk.1.1.1.1.1.1.1.1)), ⟨hk.1.1.1.1.1.2, ⟨hk.1.1.1.1.2, ⟨hk.1.1.2, ⟨hk.1.2, hk.2⟩⟩⟩⟩⟩))).2.1 (Kd.R_F (Kd.R_mono (ok' := (fun k_ => (P0_4_ k_ ∨ w.heap.size ≤ k_) ∧ some k_ ≠ (.slice Ao44 t230.length co44 : Value).ownBlock ∧ some k_ ≠ (.slice Ao47 t241.length co47 : Value).ownBlock ∧ k_ ≠ gb204 ∧ k_ ≠ gb205 ∧ k_ ≠ gb206)) (Kd.R_types (Kd.R_types (Kd.R_types (HO235.out) BK204.out (by decide)) BK205.out (by decide)) BK206.out (by decide)) (fun k_ hk => ⟨(.inr (hk.1.1.1.1.1.1.1.1)), ⟨hk.1.1.1.1.1.2, ⟨hk.1.1.1.1.2, ⟨hk.1.1.2, ⟨hk.1.2, hk.2⟩⟩⟩⟩⟩))))) (Reps.one (show Kd.FK (Kd.slice 9 Kd.string) _ _ t244 [.slice Ao51 t244.length co51] from (Kd.FK_slice_mk (Kd.R_reads' (Kd.R_mono (ok' := (fun k_ => (P0_4_ k_ ∨ w.heap.size ≤ k_) ∧ some k_ ≠ (.slice Ao44 t230.length co44 : Value).ownBlock ∧ some k_ ≠ (.slice Ao47 t241.length co47 : Value).ownBlock ∧ k_ ≠ gb204 ∧ k_ ≠ gb205 ∧ k_ ≠ gb206)) (Kd.R_types (Kd.R_types (Kd.R_types (HO246.out) BK204.out (by decide)) BK205.out (by decide)) BK206.out (by decide)) (fun k_ hk => ⟨(.inr (hk.1.1.1.1.1.1.1.1)), ⟨hk.1.1.1.1.1.2, ⟨hk.1.1.1.2, ⟨hk.1.1.2, ⟨hk.1.2, hk.2⟩⟩⟩⟩⟩))).2.1 (Kd.R_F (Kd.R_mono (ok' := (fun k_ => (P0_4_ k_ ∨ w.heap.size ≤ k_) ∧ some k_ ≠ (.slice Ao44 t230.length co44 : Value).ownBlock ∧ some k_ ≠ (.slice Ao47 t241.length co47 : Value).ownBlock ∧ k_ ≠ gb204 ∧ k_ ≠ gb205 ∧ k_ ≠ gb206)) (Kd.R_types (Kd.R_types (Kd.R_types (HO246.out) BK204.out (by decide)) BK205.out (by decide)) BK206.out (by decide)) (fun k_ hk => ⟨(.inr (hk.1.1.1.1.1.1.1.1)), ⟨hk.1.1.1.1.1.2, ⟨hk.1.1.1.2, ⟨hk.1.1.2, ⟨hk.1.2, hk.2⟩⟩⟩⟩⟩))))) (Reps.none _ _))))))
            intro v248 w52 ho53 hb hg_ hnew_
            clear hg_ hnew_
            (first | rw [← Ny247.out] at ho53 | (simp only [Int.reduceToNat] at ho53; rw [← Ny247.out] at ho53))
            have n0_ := Aside0.mk (Kd.V_elder' (by (with_reducible repeat (first | apply Kd.V_alloc | apply Kd.V_drewN | apply Kd.V_drew)); exact HO_4.out) (by first | exact Kd.N_base ho53 | exact Kd.S_base ho53) hb)
            have n1_ := Aside0.mk (Kd.V_elder' (by (with_reducible repeat (first | apply Kd.V_alloc | apply Kd.V_drewN | apply Kd.V_drew)); exact HO_205004.out) (by first | exact Kd.N_base ho53 | exact Kd.S_base ho53) hb)
            have n2_ := Aside0.mk (Kd.V_elder' (by (with_reducible repeat (first | apply Kd.V_alloc | apply Kd.V_drewN | apply Kd.V_drew)); exact HO212.out) (by first | exact Kd.N_base ho53 | exact Kd.S_base ho53) hb)
            have n3_ := Aside0.mk (Kd.V_elder' (by (with_reducible repeat (first | apply Kd.V_alloc | apply Kd.V_drewN | apply Kd.V_drew)); exact HO218.out) (by first | exact Kd.N_base ho53 | exact Kd.S_base ho53) hb)
            have n4_ := Aside0.mk (Kd.V_elder' (by (with_reducible repeat (first | apply Kd.V_alloc | apply Kd.V_drewN | apply Kd.V_drew)); exact HO224.out) (by first | exact Kd.N_base ho53 | exact Kd.S_base ho53) hb)
            have n5_ := Aside0.mk (Kd.V_elder' (by (with_reducible repeat (first | apply Kd.V_alloc | apply Kd.V_drewN | apply Kd.V_drew)); exact HO229.out) (by first | exact Kd.N_base ho53 | exact Kd.S_base ho53) hb)
            have n6_ := Aside0.mk (Kd.V_elder' (by (with_reducible repeat (first | apply Kd.V_alloc | apply Kd.V_drewN | apply Kd.V_drew)); exact HO240.out) (by first | exact Kd.N_base ho53 | exact Kd.S_base ho53) hb)
            have n7_ := Aside0.mk (Kd.R_below (by (with_reducible repeat (first | apply Kd.R_alloc | apply Kd.R_drewN | apply Kd.R_drew)); exact HO232.out) hb)
            have n8_ := Aside0.mk (Kd.R_below (by (with_reducible repeat (first | apply Kd.R_alloc | apply Kd.R_drewN | apply Kd.R_drew)); exact HO243.out) hb)
            have n9_ := Aside0.mk (Kd.N_lower ho53 (below_size (by repeat (first | (with_reducible first | exact HB.out | apply below_alloc | apply pw_below_drewN | apply below_drew1 | refine below_set ?_ GE204.out | refine below_set ?_ GE205.out | refine below_set ?_ GE206.out) | exact HB.out))))
            have n10_ := Aside0.mk (blk_below (g := gb204) (o := .cells #[.int .i64 a0_0, .int .i64 a0_1, .int .i64 a0_2, .int .i64 a0_3, .slice A0_4 l0_4.length c0_4] 33 (0, 0)) (by (with_reducible repeat (first | refine blk_drewN ?_ _ | refine blk_drew ?_ | refine blk_alloc ?_ _)); exact BK204.out) hb)
            have n11_ := Aside0.mk (blk_below (g := gb205) (o := .cells #[.int .i64 0, .int .i64 0, .int .i64 0, .int .i64 0, .slice none 0 0] 33 (0, 0)) (by (with_reducible repeat (first | refine blk_drewN ?_ _ | refine blk_drew ?_ | refine blk_alloc ?_ _)); exact BK205.out) hb)
            have n12_ := Aside0.mk (blk_below (g := gb206) (o := .cells #[.int .i64 a0_2, .int .i64 a0_3, .int .i64 a0_0, .int .i64 a0_1, .slice Ao49 x207004_1.length co49] 33 (0, 0)) (by (with_reducible repeat (first | refine blk_drewN ?_ _ | refine blk_drew ?_ | refine blk_alloc ?_ _)); exact BK206.out) hb)
            have n13_ := Aside0.mk (below_step (by repeat (first | (with_reducible first | exact HB.out | apply below_alloc | apply pw_below_drewN | apply below_drew1 | refine below_set ?_ GE204.out | refine below_set ?_ GE205.out | refine below_set ?_ GE206.out) | exact HB.out)) hb)
            clear HO_4
            clear HO_205004
            clear HO212
            clear HO218
            clear HO224
            clear HO229
            clear HO240
            clear HO232
            clear HO243
            clear BK204
            clear BK205
            clear BK206
            clear HB
            clear HO235
            clear HO246
            clear HO_207004
            have HO_4 := n0_
            have HO_205004 := n1_
            have HO212 := n2_
            have HO218 := n3_
            have HO224 := n4_
            have HO229 := n5_
            have HO240 := n6_
            have HO232 := n7_
            have HO243 := n8_
            have HO249 := n9_
            have BK204 := n10_
            have BK205 := n11_
            have BK206 := n12_
            have HB := n13_
            clear n0_ n1_ n2_ n3_ n4_ n5_ n6_ n7_ n8_ n9_ n10_ n11_ n12_ n13_
            clear hb ho53
            obtain ⟨Ao54, co54, eo54⟩ := Kd.N_slice HO249.out
            (first | subst eo54 | (injection eo54 with f1_ f2_ f3_; have f4_ := f1_.symm; have f5_ := f3_.symm; clear f1_ f2_ f3_; subst f4_; subst f5_))
            refine hK.out _ _ ⟨(blk_cell BK206.out 0).trans rfl, (blk_cell BK206.out 1).trans rfl, (blk_cell BK206.out 2).trans rfl, (blk_cell BK206.out 3).trans rfl, (blk_cell BK206.out 4).trans rfl⟩ (fun hHeld => ?_)
            clear hK K
            refine norm_ (a' := ?_) ?_ ?_
            rotate_left
            ·show Act.put _ (some 53) _ = _
             simp only [Act.put, List.setIfInBounds_toArray, List.set_cons_zero, List.set_cons_succ, i64_w, i32_w]
             rfl
            refine one_ (i := 18) (N := some 54) #[true, true, true, true, true, true, true, true, true, true, true, true, true, true, true, true, true, true, true, false, false] rfl rfl (one_of HT_.out (by kernel_rfl)) (by decide) (fun K hK => ?_)
            refine goes_ Try.func34 (by kernel_rfl) rfl #[.slice Ao54 y247.length co54] (by rfl) rfl rfl (by (try simp only [List.map_toArray, List.map_cons, List.map_nil]); first | done | rfl | (simp only [List.length_drop, List.length_take]; rfl)) ?_
            with_reducible refine (slices_Concat_string_string.calls _ _ y247 t250 _ ?side1 ?side2 A32.out).mono ?_
            (case side1 => repeat (first | exact (Kd.N_reads' HO249.out).2.2 | (with_reducible refine Kd.C_alloc ?_ _) | (with_reducible refine Kd.C_drewN ?_ _) | (with_reducible refine Kd.C_drew ?_)))
            (case side2 => exact (Kd.N_reads' HO249.out).2.1)
            rintro e w55 ⟨v251, rfl, ho0, hb⟩
            refine ⟨_, rfl, ?_⟩
            have n0_ := Aside0.mk (Kd.V_elder' (by (with_reducible repeat (first | apply Kd.V_alloc | apply Kd.V_drewN | apply Kd.V_drew)); exact HO_4.out) (Kd.R_base ho0) hb)
            have n1_ := Aside0.mk (Kd.V_elder' (by (with_reducible repeat (first | apply Kd.V_alloc | apply Kd.V_drewN | apply Kd.V_drew)); exact HO_205004.out) (Kd.R_base ho0) hb)
            have n2_ := Aside0.mk (Kd.V_elder' (by (with_reducible repeat (first | apply Kd.V_alloc | apply Kd.V_drewN | apply Kd.V_drew)); exact HO212.out) (Kd.R_base ho0) hb)
            have n3_ := Aside0.mk (Kd.V_elder' (by (with_reducible repeat (first | apply Kd.V_alloc | apply Kd.V_drewN | apply Kd.V_drew)); exact HO218.out) (Kd.R_base ho0) hb)
            have n4_ := Aside0.mk (Kd.V_elder' (by (with_reducible repeat (first | apply Kd.V_alloc | apply Kd.V_drewN | apply Kd.V_drew)); exact HO224.out) (Kd.R_base ho0) hb)
            have n5_ := Aside0.mk (Kd.V_elder' (by (with_reducible repeat (first | apply Kd.V_alloc | apply Kd.V_drewN | apply Kd.V_drew)); exact HO229.out) (Kd.R_base ho0) hb)
            have n6_ := Aside0.mk (Kd.V_elder' (by (with_reducible repeat (first | apply Kd.V_alloc | apply Kd.V_drewN | apply Kd.V_drew)); exact HO240.out) (Kd.R_base ho0) hb)
            have n7_ := Aside0.mk (Kd.R_elder' (by (with_reducible repeat (first | apply Kd.R_alloc | apply Kd.R_drewN | apply Kd.R_drew)); exact HO232.out) (Kd.R_base ho0) hb)
            have n8_ := Aside0.mk (Kd.R_elder' (by (with_reducible repeat (first | apply Kd.R_alloc | apply Kd.R_drewN | apply Kd.R_drew)); exact HO243.out) (Kd.R_base ho0) hb)
            have n9_ := Aside0.mk (Kd.N_elder' (by (with_reducible repeat (first | apply Kd.N_alloc | apply Kd.N_drewN | apply Kd.N_drew)); exact HO249.out) (Kd.R_base ho0) hb)
            have n10_ := Aside0.mk (Kd.R_lower (Kd.R_new' (Kd.R_new' (Kd.R_newM (M := fun k_ => (w.heap.size ≤ k_)) ho0 (below_size (by repeat (first | (with_reducible first | exact HB.out | apply below_alloc | apply pw_below_drewN | apply below_drew1 | refine below_set ?_ GE204.out | refine below_set ?_ GE205.out | refine below_set ?_ GE206.out) | exact HB.out))) (fun k_ h_ => h_)) (Kd.R_lt (by (with_reducible repeat (first | apply Kd.R_alloc | apply Kd.R_drewN | apply Kd.R_drew)); exact HO232.out))) (Kd.R_lt (by (with_reducible repeat (first | apply Kd.R_alloc | apply Kd.R_drewN | apply Kd.R_drew)); exact HO243.out))) (below_size (by repeat (first | (with_reducible first | exact HB.out | apply below_alloc | apply pw_below_drewN | apply below_drew1 | refine below_set ?_ GE204.out | refine below_set ?_ GE205.out | refine below_set ?_ GE206.out) | exact HB.out))))
            have n11_ := Aside0.mk (blk_below (g := gb204) (o := .cells #[.int .i64 a0_0, .int .i64 a0_1, .int .i64 a0_2, .int .i64 a0_3, .slice A0_4 l0_4.length c0_4] 33 (0, 0)) (by (with_reducible repeat (first | refine blk_drewN ?_ _ | refine blk_drew ?_ | refine blk_alloc ?_ _)); exact BK204.out) hb)
            have n12_ := Aside0.mk (blk_below (g := gb205) (o := .cells #[.int .i64 0, .int .i64 0, .int .i64 0, .int .i64 0, .slice none 0 0] 33 (0, 0)) (by (with_reducible repeat (first | refine blk_drewN ?_ _ | refine blk_drew ?_ | refine blk_alloc ?_ _)); exact BK205.out) hb)
            have n13_ := Aside0.mk (blk_below (g := gb206) (o := .cells #[.int .i64 a0_2, .int .i64 a0_3, .int .i64 a0_0, .int .i64 a0_1, .slice Ao49 x207004_1.length co49] 33 (0, 0)) (by (with_reducible repeat (first | refine blk_drewN ?_ _ | refine blk_drew ?_ | refine blk_alloc ?_ _)); exact BK206.out) hb)
            have n14_ := Aside0.mk (below_step (by repeat (first | (with_reducible first | exact HB.out | apply below_alloc | apply pw_below_drewN | apply below_drew1 | refine below_set ?_ GE204.out | refine below_set ?_ GE205.out | refine below_set ?_ GE206.out) | exact HB.out)) hb)
            clear HO_4
            clear HO_205004
            clear HO212
            clear HO218
            clear HO224
            clear HO229
            clear HO240
            clear HO232
            clear HO243
            clear HO249
            clear BK204
            clear BK205
            clear BK206
            clear HB
            have HO_4 := n0_
            have HO_205004 := n1_
            have HO212 := n2_
            have HO218 := n3_
            have HO224 := n4_
            have HO229 := n5_
            have HO240 := n6_
            have HO232 := n7_
            have HO243 := n8_
            have HO249 := n9_
            have HO252 := n10_
            have BK204 := n11_
            have BK205 := n12_
            have BK206 := n13_
            have HB := n14_
            clear n0_ n1_ n2_ n3_ n4_ n5_ n6_ n7_ n8_ n9_ n10_ n11_ n12_ n13_ n14_
            (try clear hb)
            (try clear hb2)
            (try clear hk)
            (try clear hi)
            (try clear ho0)
            obtain ⟨Ao56, co56, eo56⟩ := Kd.R_slice HO252.out
            (first | subst eo56 | (injection eo56 with f1_ f2_ f3_; have f4_ := f1_.symm; have f5_ := f3_.symm; clear f1_ f2_ f3_; subst f4_; subst f5_))
            refine hK.out _ _ ⟨(blk_cell BK206.out 0).trans rfl, (blk_cell BK206.out 1).trans rfl, (blk_cell BK206.out 2).trans rfl, (blk_cell BK206.out 3).trans rfl, (blk_cell BK206.out 4).trans rfl⟩ (fun hHeld => ?_)
            clear hK K
            refine norm_ (a' := ?_) ?_ ?_
            rotate_left
            ·show Act.put _ (some 54) _ = _
             simp only [Act.put, List.setIfInBounds_toArray, List.set_cons_zero, List.set_cons_succ, i64_w, i32_w]
             rfl
            refine pure_ (i := 19) (N := some 55) (v := ?_) (a' := ?_) #[true, true, true, true, true, true, true, true, true, true, true, true, true, true, true, true, true, true, true, true, false] rfl rfl (any_of HT_.out (by kernel_rfl)) (fun _ _ _ h => h) (Or.inl ⟨by rfl, ?_⟩) ?_ ?_
            rotate_left
            ·intro w'
             go_simp
             with_reducible rfl
            rotate_left
            ·simp only [Act.put, List.setIfInBounds_toArray, List.set_cons_zero, List.set_cons_succ, i64_w, i32_w]
             rfl
            refine last_ (i := 20) (N := none) #[true, true, true, true, true, true, true, true, true, true, true, true, true, true, true, true, true, true, true, true, true] rfl rfl (one_of HT_.out (by kernel_rfl)) (by decide) (fun K hK => ?_)
            have hs57 : w55.cell? ⟨gb206, 4, none⟩ = some (.slice Ao49 x207004_1.length co49) := (blk_cell BK206.out 4).trans rfl
            have hfs57 := blk_frozen BK206.out 4
            have hns57_0 := NB204_206.out
            have hns57_1 := NB205_206.out
            have hms57_0 := NB206_204.out
            have hms57_1 := NB206_205.out
            refine skip_ (w1 := ?_) (by rfl) rfl ?_ ?_
            rotate_left
            ·go_simp
             rfl
            refine hK.out _ _ ?_
            clear hK K
            refine done_ (done_of HT_.out (by kernel_rfl)) ?_
            have n0_ : Aside0 (Kd.V Kd.string 9 (w55.setCell ⟨gb206, 4, none⟩ (.slice Ao56 t250.length co56)) w.heap.size (fun k_ => (P0_4_ k_ ∨ w.heap.size ≤ k_) ∧ some k_ ≠ (.slice Ao44 t230.length co44 : Value).ownBlock ∧ some k_ ≠ (.slice Ao47 t241.length co47 : Value).ownBlock ∧ some k_ ≠ (.slice Ao54 y247.length co54 : Value).ownBlock ∧ some k_ ≠ (.slice Ao56 t250.length co56 : Value).ownBlock ∧ k_ ≠ gb204 ∧ k_ ≠ gb205 ∧ k_ ≠ gb206) (.slice Ao36 x4_1.length co36) x4_1) := ⟨by (with_reducible repeat (first | apply Kd.V_alloc | apply Kd.V_drewN | apply Kd.V_drew)); exact Kd.V_mono (Kd.V_far (p := ⟨gb206, 4, none⟩) (Kd.V_mono HO_4.out (fun k_ hk => (⟨hk, hk.1.1.1.1.1.1.2.2.2.2⟩ : _ ∧ k_ ≠ gb206))) (fun _ hk => hk.2) (.slice Ao56 t250.length co56)) (fun _ hk => ⟨hk.1.1.1.1.1.1.1.1, ⟨hk.1.1.1.1.1.1.2, ⟨hk.1.1.1.1.2, ⟨hk.1.1.2, ⟨hk.1.2, ⟨hk.1.1.1.1.1.1.1.2.2.1, ⟨hk.1.1.1.1.1.1.1.2.2.2.1, hk.1.1.1.1.1.1.1.2.2.2.2⟩⟩⟩⟩⟩⟩⟩)⟩
            have n1_ : Aside0 (Kd.V Kd.string 9 (w55.setCell ⟨gb206, 4, none⟩ (.slice Ao56 t250.length co56)) w.heap.size (fun k_ => (P0_4_ k_ ∨ w.heap.size ≤ k_) ∧ some k_ ≠ (.slice Ao44 t230.length co44 : Value).ownBlock ∧ some k_ ≠ (.slice Ao47 t241.length co47 : Value).ownBlock ∧ some k_ ≠ (.slice Ao54 y247.length co54 : Value).ownBlock ∧ some k_ ≠ (.slice Ao56 t250.length co56 : Value).ownBlock ∧ k_ ≠ gb204 ∧ k_ ≠ gb205 ∧ k_ ≠ gb206) (.slice A0_4 l0_4.length c0_4) l0_4) := ⟨by (with_reducible repeat (first | apply Kd.V_alloc | apply Kd.V_drewN | apply Kd.V_drew)); exact Kd.V_mono (Kd.V_far (p := ⟨gb206, 4, none⟩) (Kd.V_mono HO_205004.out (fun k_ hk => (⟨hk, hk.1.1.1.1.1.1.2.2.2.2⟩ : _ ∧ k_ ≠ gb206))) (fun _ hk => hk.2) (.slice Ao56 t250.length co56)) (fun _ hk => ⟨hk.1.1.1.1.1.1.1.1, ⟨hk.1.1.1.1.1.1.2, ⟨hk.1.1.1.1.2, ⟨hk.1.1.2, ⟨hk.1.2, ⟨hk.1.1.1.1.1.1.1.2.2.1, ⟨hk.1.1.1.1.1.1.1.2.2.2.1, hk.1.1.1.1.1.1.1.2.2.2.2⟩⟩⟩⟩⟩⟩⟩)⟩
            have n2_ : Aside0 (Kd.V Kd.string 9 (w55.setCell ⟨gb206, 4, none⟩ (.slice Ao56 t250.length co56)) w.heap.size (fun k_ => (P0_4_ k_ ∨ w.heap.size ≤ k_) ∧ some k_ ≠ (.slice Ao44 t230.length co44 : Value).ownBlock ∧ some k_ ≠ (.slice Ao47 t241.length co47 : Value).ownBlock ∧ some k_ ≠ (.slice Ao54 y247.length co54 : Value).ownBlock ∧ some k_ ≠ (.slice Ao56 t250.length co56 : Value).ownBlock ∧ k_ ≠ gb204 ∧ k_ ≠ gb205 ∧ k_ ≠ gb206) (.slice A37 y208.length c37) y208) := ⟨by (with_reducible repeat (first | apply Kd.V_alloc | apply Kd.V_drewN | apply Kd.V_drew)); exact Kd.V_mono (Kd.V_far (p := ⟨gb206, 4, none⟩) (Kd.V_mono HO212.out (fun k_ hk => (⟨hk, hk.1.1.1.1.1.1.2.2.2.2⟩ : _ ∧ k_ ≠ gb206))) (fun _ hk => hk.2) (.slice Ao56 t250.length co56)) (fun _ hk => ⟨hk.1.1.1.1.1.1.1.1, ⟨hk.1.1.1.1.1.1.2, ⟨hk.1.1.1.1.2, ⟨hk.1.1.2, ⟨hk.1.2, ⟨hk.1.1.1.1.1.1.1.2.2.1, ⟨hk.1.1.1.1.1.1.1.2.2.2.1, hk.1.1.1.1.1.1.1.2.2.2.2⟩⟩⟩⟩⟩⟩⟩)⟩
            have n3_ : Aside0 (Kd.V Kd.string 9 (w55.setCell ⟨gb206, 4, none⟩ (.slice Ao56 t250.length co56)) w.heap.size (fun k_ => (P0_4_ k_ ∨ w.heap.size ≤ k_) ∧ some k_ ≠ (.slice Ao44 t230.length co44 : Value).ownBlock ∧ some k_ ≠ (.slice Ao47 t241.length co47 : Value).ownBlock ∧ some k_ ≠ (.slice Ao54 y247.length co54 : Value).ownBlock ∧ some k_ ≠ (.slice Ao56 t250.length co56 : Value).ownBlock ∧ k_ ≠ gb204 ∧ k_ ≠ gb205 ∧ k_ ≠ gb206) (.slice A38 y214.length c38) y214) := ⟨by (with_reducible repeat (first | apply Kd.V_alloc | apply Kd.V_drewN | apply Kd.V_drew)); exact Kd.V_mono (Kd.V_far (p := ⟨gb206, 4, none⟩) (Kd.V_mono HO218.out (fun k_ hk => (⟨hk, hk.1.1.1.1.1.1.2.2.2.2⟩ : _ ∧ k_ ≠ gb206))) (fun _ hk => hk.2) (.slice Ao56 t250.length co56)) (fun _ hk => ⟨hk.1.1.1.1.1.1.1.1, ⟨hk.1.1.1.1.1.1.2, ⟨hk.1.1.1.1.2, ⟨hk.1.1.2, ⟨hk.1.2, ⟨hk.1.1.1.1.1.1.1.2.2.1, ⟨hk.1.1.1.1.1.1.1.2.2.2.1, hk.1.1.1.1.1.1.1.2.2.2.2⟩⟩⟩⟩⟩⟩⟩)⟩
            have n4_ : Aside0 (Kd.V Kd.string 9 (w55.setCell ⟨gb206, 4, none⟩ (.slice Ao56 t250.length co56)) w.heap.size (fun k_ => (P0_4_ k_ ∨ w.heap.size ≤ k_) ∧ some k_ ≠ (.slice Ao44 t230.length co44 : Value).ownBlock ∧ some k_ ≠ (.slice Ao47 t241.length co47 : Value).ownBlock ∧ some k_ ≠ (.slice Ao54 y247.length co54 : Value).ownBlock ∧ some k_ ≠ (.slice Ao56 t250.length co56 : Value).ownBlock ∧ k_ ≠ gb204 ∧ k_ ≠ gb205 ∧ k_ ≠ gb206) (.slice Ao36 y220.length co36) y220) := ⟨by (with_reducible repeat (first | apply Kd.V_alloc | apply Kd.V_drewN | apply Kd.V_drew)); exact Kd.V_mono (Kd.V_far (p := ⟨gb206, 4, none⟩) (Kd.V_mono HO224.out (fun k_ hk => (⟨hk, hk.1.1.1.1.1.1.2.2.2.2⟩ : _ ∧ k_ ≠ gb206))) (fun _ hk => hk.2) (.slice Ao56 t250.length co56)) (fun _ hk => ⟨hk.1.1.1.1.1.1.1.1, ⟨hk.1.1.1.1.1.1.2, ⟨hk.1.1.1.1.2, ⟨hk.1.1.2, ⟨hk.1.2, ⟨hk.1.1.1.1.1.1.1.2.2.1, ⟨hk.1.1.1.1.1.1.1.2.2.2.1, hk.1.1.1.1.1.1.1.2.2.2.2⟩⟩⟩⟩⟩⟩⟩)⟩
            have n5_ : Aside0 (Kd.V Kd.string 9 (w55.setCell ⟨gb206, 4, none⟩ (.slice Ao56 t250.length co56)) w.heap.size (fun k_ => (P0_4_ k_ ∨ w.heap.size ≤ k_) ∧ some k_ ≠ (.slice Ao44 t230.length co44 : Value).ownBlock ∧ some k_ ≠ (.slice Ao47 t241.length co47 : Value).ownBlock ∧ some k_ ≠ (.slice Ao54 y247.length co54 : Value).ownBlock ∧ some k_ ≠ (.slice Ao56 t250.length co56 : Value).ownBlock ∧ k_ ≠ gb204 ∧ k_ ≠ gb205 ∧ k_ ≠ gb206) (.slice A41 y225.length c41) y225) := ⟨by (with_reducible repeat (first | apply Kd.V_alloc | apply Kd.V_drewN | apply Kd.V_drew)); exact Kd.V_mono (Kd.V_far (p := ⟨gb206, 4, none⟩) (Kd.V_mono HO229.out (fun k_ hk => (⟨hk, hk.1.1.1.1.1.1.2.2.2.2⟩ : _ ∧ k_ ≠ gb206))) (fun _ hk => hk.2) (.slice Ao56 t250.length co56)) (fun _ hk => ⟨hk.1.1.1.1.1.1.1.1, ⟨hk.1.1.1.1.1.1.2, ⟨hk.1.1.1.1.2, ⟨hk.1.1.2, ⟨hk.1.2, ⟨hk.1.1.1.1.1.1.1.2.2.1, ⟨hk.1.1.1.1.1.1.1.2.2.2.1, hk.1.1.1.1.1.1.1.2.2.2.2⟩⟩⟩⟩⟩⟩⟩)⟩
            have n6_ : Aside0 (Kd.V Kd.string 9 (w55.setCell ⟨gb206, 4, none⟩ (.slice Ao56 t250.length co56)) w.heap.size (fun k_ => (P0_4_ k_ ∨ w.heap.size ≤ k_) ∧ some k_ ≠ (.slice Ao44 t230.length co44 : Value).ownBlock ∧ some k_ ≠ (.slice Ao47 t241.length co47 : Value).ownBlock ∧ some k_ ≠ (.slice Ao54 y247.length co54 : Value).ownBlock ∧ some k_ ≠ (.slice Ao56 t250.length co56 : Value).ownBlock ∧ k_ ≠ gb204 ∧ k_ ≠ gb205 ∧ k_ ≠ gb206) (.slice A42 y236.length c42) y236) := ⟨by (with_reducible repeat (first | apply Kd.V_alloc | apply Kd.V_drewN | apply Kd.V_drew)); exact Kd.V_mono (Kd.V_far (p := ⟨gb206, 4, none⟩) (Kd.V_mono HO240.out (fun k_ hk => (⟨hk, hk.1.1.1.1.1.1.2.2.2.2⟩ : _ ∧ k_ ≠ gb206))) (fun _ hk => hk.2) (.slice Ao56 t250.length co56)) (fun _ hk => ⟨hk.1.1.1.1.1.1.1.1, ⟨hk.1.1.1.1.1.1.2, ⟨hk.1.1.1.1.2, ⟨hk.1.1.2, ⟨hk.1.2, ⟨hk.1.1.1.1.1.1.1.2.2.1, ⟨hk.1.1.1.1.1.1.1.2.2.2.1, hk.1.1.1.1.1.1.1.2.2.2.2⟩⟩⟩⟩⟩⟩⟩)⟩
            have n7_ : Aside0 (Kd.R Kd.string 9 (w55.setCell ⟨gb206, 4, none⟩ (.slice Ao56 t250.length co56)) w.heap.size (fun k_ => (w.heap.size ≤ k_) ∧ some k_ ≠ (.slice Ao47 t241.length co47 : Value).ownBlock ∧ some k_ ≠ (.slice Ao56 t250.length co56 : Value).ownBlock) (.slice Ao44 t230.length co44) t230) := ⟨by (with_reducible repeat (first | apply Kd.R_alloc | apply Kd.R_drewN | apply Kd.R_drew)); exact Kd.R_mono (Kd.R_far (p := ⟨gb206, 4, none⟩) (Kd.R_types HO232.out BK206.out (by decide)) (fun _ hk => hk.2) (.slice Ao56 t250.length co56)) (fun _ hk => ⟨hk.1.1.1.1.1.1.1, ⟨hk.1.1.1.2, hk.1.2⟩⟩)⟩
            have n8_ : Aside0 (Kd.R Kd.string 9 (w55.setCell ⟨gb206, 4, none⟩ (.slice Ao56 t250.length co56)) w.heap.size (fun k_ => (w.heap.size ≤ k_) ∧ some k_ ≠ (.slice Ao44 t230.length co44 : Value).ownBlock ∧ some k_ ≠ (.slice Ao56 t250.length co56 : Value).ownBlock) (.slice Ao47 t241.length co47) t241) := ⟨by (with_reducible repeat (first | apply Kd.R_alloc | apply Kd.R_drewN | apply Kd.R_drew)); exact Kd.R_mono (Kd.R_far (p := ⟨gb206, 4, none⟩) (Kd.R_types HO243.out BK206.out (by decide)) (fun _ hk => hk.2) (.slice Ao56 t250.length co56)) (fun _ hk => ⟨hk.1.1.1.1.1.1.1, ⟨hk.1.1.1.1.2, hk.1.2⟩⟩)⟩
            have n9_ : Aside0 (Kd.N (Kd.slice 9 Kd.string) 22 (w55.setCell ⟨gb206, 4, none⟩ (.slice Ao56 t250.length co56)) w.heap.size (fun k_ => (P0_4_ k_ ∨ w.heap.size ≤ k_) ∧ some k_ ≠ (.slice Ao44 t230.length co44 : Value).ownBlock ∧ some k_ ≠ (.slice Ao47 t241.length co47 : Value).ownBlock ∧ some k_ ≠ (.slice Ao56 t250.length co56 : Value).ownBlock ∧ k_ ≠ gb204 ∧ k_ ≠ gb205 ∧ k_ ≠ gb206) (.slice Ao54 y247.length co54) y247) := ⟨by (with_reducible repeat (first | apply Kd.N_alloc | apply Kd.N_drewN | apply Kd.N_drew)); exact Kd.N_mono (Kd.N_far (p := ⟨gb206, 4, none⟩) (Kd.N_mono HO249.out (fun k_ hk => (⟨hk, hk.1.2.2.2.2.2⟩ : _ ∧ k_ ≠ gb206))) (fun _ hk => hk.2) (.slice Ao56 t250.length co56)) (fun _ hk => ⟨hk.1.1.1, ⟨hk.1.1.2.1, ⟨hk.1.1.2.2.1, ⟨hk.1.2, ⟨hk.1.1.2.2.2.1, ⟨hk.1.1.2.2.2.2.1, hk.1.1.2.2.2.2.2⟩⟩⟩⟩⟩⟩)⟩
            have n10_ : Aside0 (Kd.R Kd.string 9 (w55.setCell ⟨gb206, 4, none⟩ (.slice Ao56 t250.length co56)) w.heap.size (fun k_ => (w.heap.size ≤ k_) ∧ some k_ ≠ (.slice Ao44 t230.length co44 : Value).ownBlock ∧ some k_ ≠ (.slice Ao47 t241.length co47 : Value).ownBlock) (.slice Ao56 t250.length co56) t250) := ⟨by (with_reducible repeat (first | apply Kd.R_alloc | apply Kd.R_drewN | apply Kd.R_drew)); exact Kd.R_mono (Kd.R_far (p := ⟨gb206, 4, none⟩) (Kd.R_types HO252.out BK206.out (by decide)) (fun _ hk => hk.2) (.slice Ao56 t250.length co56)) (fun _ hk => ⟨hk.1.1.1.1, ⟨hk.1.1.2, hk.1.2⟩⟩)⟩
            have n11_ : Aside0 ((w55.setCell ⟨gb206, 4, none⟩ (.slice Ao56 t250.length co56)).heap[gb204]? = some (.cells #[.int .i64 a0_0, .int .i64 a0_1, .int .i64 a0_2, .int .i64 a0_3, .slice A0_4 l0_4.length c0_4] 33 (0, 0))) := ⟨by (with_reducible repeat (first | refine blk_drewN ?_ _ | refine blk_drew ?_ | refine blk_alloc ?_ _)); refine blk_far ?_ NB204_206.out _; (with_reducible repeat (first | refine blk_drewN ?_ _ | refine blk_drew ?_ | refine blk_alloc ?_ _)); exact BK204.out⟩
            have n12_ : Aside0 ((w55.setCell ⟨gb206, 4, none⟩ (.slice Ao56 t250.length co56)).heap[gb205]? = some (.cells #[.int .i64 0, .int .i64 0, .int .i64 0, .int .i64 0, .slice none 0 0] 33 (0, 0))) := ⟨by (with_reducible repeat (first | refine blk_drewN ?_ _ | refine blk_drew ?_ | refine blk_alloc ?_ _)); refine blk_far ?_ NB205_206.out _; (with_reducible repeat (first | refine blk_drewN ?_ _ | refine blk_drew ?_ | refine blk_alloc ?_ _)); exact BK205.out⟩
            have n13_ : Aside0 ((w55.setCell ⟨gb206, 4, none⟩ (.slice Ao56 t250.length co56)).heap[gb206]? = some (.cells #[.int .i64 a0_2, .int .i64 a0_3, .int .i64 a0_0, .int .i64 a0_1, .slice Ao56 t250.length co56] 33 (0, 0))) := ⟨by (with_reducible repeat (first | refine blk_drewN ?_ _ | refine blk_drew ?_ | refine blk_alloc ?_ _)); refine blk_put (cs := #[.int .i64 a0_2, .int .i64 a0_3, .int .i64 a0_0, .int .i64 a0_1, .slice Ao49 x207004_1.length co49]) ?_ 4 _ rfl; (with_reducible repeat (first | refine blk_drewN ?_ _ | refine blk_drew ?_ | refine blk_alloc ?_ _)); exact BK206.out⟩
            have n14_ : Aside0 (Below w.heap.size w (w55.setCell ⟨gb206, 4, none⟩ (.slice Ao56 t250.length co56))) := ⟨by repeat (first | (with_reducible first | exact HB.out | apply below_alloc | apply pw_below_drewN | apply below_drew1 | refine below_set ?_ GE204.out | refine below_set ?_ GE205.out | refine below_set ?_ GE206.out) | exact HB.out)⟩
            (try clear HO_4)
            (try clear HO_205004)
            (try clear HO212)
            (try clear HO218)
            (try clear HO224)
            (try clear HO229)
            (try clear HO240)
            (try clear HO232)
            (try clear HO243)
            (try clear HO249)
            (try clear HO252)
            (try clear BK204)
            (try clear BK205)
            (try clear BK206)
            (try clear HB)
            generalize (w55.setCell ⟨gb206, 4, none⟩ (.slice Ao56 t250.length co56)) = w58 at n0_ n1_ n2_ n3_ n4_ n5_ n6_ n7_ n8_ n9_ n10_ n11_ n12_ n13_ n14_ ⊢
            have HO_4 := n0_
            have HO_205004 := n1_
            have HO212 := n2_
            have HO218 := n3_
            have HO224 := n4_
            have HO229 := n5_
            have HO240 := n6_
            have HO232 := n7_
            have HO243 := n8_
            have HO249 := n9_
            have HO252 := n10_
            have BK204 := n11_
            have BK205 := n12_
            have BK206 := n13_
            have HB := n14_
            clear n0_ n1_ n2_ n3_ n4_ n5_ n6_ n7_ n8_ n9_ n10_ n11_ n12_ n13_ n14_
            have q59 : ((ji33) : Int) ≤ ((x4_1.length : Int) : Int) := of_decide_eq_true (by first | (with_reducible assumption) | assumption)
            obtain ⟨i059, hi059, _, hsz59, _⟩ := info_parts info9
            have hroom59 : x4_1.length ≤ co36 := (Kd.V_reads' HO_4.out).2.1
            have hC59 : Kd.F Kd.string _ _ Ao36 x4_1.length x4_1 := (Kd.V_at (base := w.heap.size) HO_4.out).2.2
            have q059 : (0 : Int) ≤ ((ji33) : Int) := of_decide_eq_true (by first | (with_reducible assumption) | assumption)
            have hcut59 := cut_from (P := Try.prog) 22 9 .i64 Try.underlying22 hi059 1 hsz59 Ao36 x4_1.length co36 (ji33) q059 q59
            have hr59 := Kd.F_cut (m := ((ji33) : Int).toNat) (c := co36) hC59 (by omega) hroom59
            obtain ⟨A59, hA59⟩ : ∃ A1, A1 = (if co36 = ((ji33) : Int).toNat then Ao36 else (Ao36 : Option Addr).map (·.add (((ji33) : Int).toNat * 1))) := ⟨_, rfl⟩
            obtain ⟨c59, hc59⟩ : ∃ c1, c1 = co36 - ((ji33) : Int).toNat := ⟨_, rfl⟩
            have hy59 : y253.length = x4_1.length - ((ji33) : Int).toNat := (by rw [Ny253.out, List.length_drop] <;> omega)
            rw [show (x4_1).drop ((ji33) : Int).toNat = y253 from Ny253.out.symm] at hr59
            replace hr59 : Kd.F Kd.string _ _ A59 y253.length y253 := (by rw [hA59]; exact hr59)
            rw [← hy59, ← hA59, ← hc59] at hcut59
            have HO257 := Aside0.mk (show Kd.V Kd.string 9 _ w.heap.size _ (.slice A59 y253.length c59) y253 from Kd.V_mk (by rw [hy59, hc59]; exact Nat.sub_le_sub_right hroom59 _) hr59)
            have HC257 := Aside0.mk (show y253.length ≤ c59 from by rw [hy59, hc59]; exact Nat.sub_le_sub_right hroom59 _)
            clear hr59 hC59 hroom59 hi059 hsz59 hc59
            have KY59 := Aside0.mk hy59
            have KA59 := Aside0.mk hA59
            clear hy59 hA59
            replace q59 := eq_true q59
            try go_wp2
            go_roundg k1
            case measure => have := HK1.out; omega
            case rel => exact ⟨(y253), (t250), (.slice Ao56 t250.length co56), H', ⟨by have := HK1.out; omega⟩, ⟨by (with_reducible repeat (first | apply Kd.V_alloc | apply Kd.V_drewN | apply Kd.V_drew)); exact Kd.V_mono HO257.out (fun _ hk => ⟨hk.1, ⟨hk.2.2.2.2.1, ⟨hk.2.2.2.2.2.1, ⟨hk.2.2.2.2.2.2.1, hk.2.2.2.2.2.2.2⟩⟩⟩⟩)⟩, ⟨by (with_reducible repeat (first | apply Kd.V_alloc | apply Kd.V_drewN | apply Kd.V_drew)); exact Kd.V_mono HO_205004.out (fun _ hk => ⟨hk.1, ⟨hk.2.2.2.2.1, ⟨hk.2.2.2.2.2.1, ⟨hk.2.2.2.2.2.2.1, hk.2.2.2.2.2.2.2⟩⟩⟩⟩)⟩, ⟨by (with_reducible repeat (first | apply Kd.R_alloc | apply Kd.R_drewN | apply Kd.R_drew)); exact Kd.R_mono HO252.out (fun _ hk => hk.1)⟩, ⟨by (with_reducible repeat (first | refine blk_drewN ?_ _ | refine blk_drew ?_ | refine blk_alloc ?_ _)); exact BK204.out⟩, ⟨by (with_reducible repeat (first | refine blk_drewN ?_ _ | refine blk_drew ?_ | refine blk_alloc ?_ _)); exact BK205.out⟩, ⟨by (with_reducible repeat (first | refine blk_drewN ?_ _ | refine blk_drew ?_ | refine blk_alloc ?_ _)); exact BK206.out⟩, ⟨by repeat (first | (with_reducible first | exact HB.out | apply below_alloc | apply pw_below_drewN | apply below_drew1 | refine below_set ?_ GE204.out | refine below_set ?_ GE205.out | refine below_set ?_ GE206.out) | exact HB.out)⟩⟩
           ·rw [if_neg c34] at H
            exact absurd H (by simp)
          ·rw [if_neg c28] at H
           exact absurd H (by simp)
         ·rw [if_neg c24] at H
          exact absurd H (by simp)
        ·rw [if_neg c23] at H
         exact absurd H (by simp)
       ·rw [if_neg c18] at H
        exact absurd H (by simp)
      ·rw [if_neg c17] at H
       exact absurd H (by simp)
     ·rw [if_neg c14] at H
      exact absurd H (by simp)
    ·rw [if_neg c13] at H
     exact absurd H (by simp)
   ·rw [if_neg c11] at H
    have c11b0 : decide (0 < (x4_1.length : Int)) = false := decide_eq_false c11
    have c11b1 : decide (0 < x4_1.length) = false := decide_eq_false (by omega)
    clear c11
    simp only [Option.some.injEq, Prod.mk.injEq] at H
    obtain ⟨rfl, rfl, rfl, rfl, rfl⟩ := H
    obtain ⟨Ao60, co60, eo60⟩ := Kd.V_slice HO_4.out
    subst eo60
    have hnb61 := NB206_204.out
    have hnc61 := NB204_206.out
    have hnb62 := NB206_205.out
    have hnc62 := NB205_206.out
    have hcz63_0 : wr.cell? ⟨gb206, 0, none⟩ = some (.int .i64 a0_2) := (blk_cell BK206.out 0).trans rfl
    have hcz63_1 : wr.cell? ⟨gb206, 1, none⟩ = some (.int .i64 a0_3) := (blk_cell BK206.out 1).trans rfl
    have hcz63_2 : wr.cell? ⟨gb206, 2, none⟩ = some (.int .i64 a0_0) := (blk_cell BK206.out 2).trans rfl
    have hcz63_3 : wr.cell? ⟨gb206, 3, none⟩ = some (.int .i64 a0_1) := (blk_cell BK206.out 3).trans rfl
    have hcz63_4 : wr.cell? ⟨gb206, 4, none⟩ = some (u207004) := (blk_cell BK206.out 4).trans rfl
    have hfz63_0 := blk_frozen BK206.out 0
    have hfz63_1 := blk_frozen BK206.out 1
    have hfz63_2 := blk_frozen BK206.out 2
    have hfz63_3 := blk_frozen BK206.out 3
    have hfz63_4 := blk_frozen BK206.out 4
    have hnb64 := NB205_204.out
    have hnc64 := NB204_205.out
    have hcz65_0 : wr.cell? ⟨gb205, 0, none⟩ = some (.int .i64 0) := (blk_cell BK205.out 0).trans rfl
    have hcz65_1 : wr.cell? ⟨gb205, 1, none⟩ = some (.int .i64 0) := (blk_cell BK205.out 1).trans rfl
    have hcz65_2 : wr.cell? ⟨gb205, 2, none⟩ = some (.int .i64 0) := (blk_cell BK205.out 2).trans rfl
    have hcz65_3 : wr.cell? ⟨gb205, 3, none⟩ = some (.int .i64 0) := (blk_cell BK205.out 3).trans rfl
    have hcz65_4 : wr.cell? ⟨gb205, 4, none⟩ = some (.slice none 0 0) := (blk_cell BK205.out 4).trans rfl
    have hfz65_0 := blk_frozen BK205.out 0
    have hfz65_1 := blk_frozen BK205.out 1
    have hfz65_2 := blk_frozen BK205.out 2
    have hfz65_3 := blk_frozen BK205.out 3
    have hfz65_4 := blk_frozen BK205.out 4
    obtain ⟨Ao66, co66, eo66⟩ := Kd.R_slice HO_207004.out
    subst eo66
    go_wp2
    refine bodyPost_ret (results_cell_row rfl _ _ gb205 33 #[.int .i64 a0_2, .int .i64 a0_3, .int .i64 a0_0, .int .i64 a0_1, .slice Ao66 x207004_1.length co66] (0, 0) _ rfl (by (with_reducible repeat (first | refine blk_drewN ?_ _ | refine blk_drew ?_ | refine blk_alloc ?_ _)); refine blk_put (cs := #[.int .i64 a0_2, .int .i64 a0_3, .int .i64 a0_0, .int .i64 a0_1, .slice none 0 0]) ?_ 4 _ rfl; (with_reducible repeat (first | refine blk_drewN ?_ _ | refine blk_drew ?_ | refine blk_alloc ?_ _)); refine blk_put (cs := #[.int .i64 a0_2, .int .i64 a0_3, .int .i64 a0_0, .int .i64 0, .slice none 0 0]) ?_ 3 _ rfl; (with_reducible repeat (first | refine blk_drewN ?_ _ | refine blk_drew ?_ | refine blk_alloc ?_ _)); refine blk_put (cs := #[.int .i64 a0_2, .int .i64 a0_3, .int .i64 0, .int .i64 0, .slice none 0 0]) ?_ 2 _ rfl; (with_reducible repeat (first | refine blk_drewN ?_ _ | refine blk_drew ?_ | refine blk_alloc ?_ _)); refine blk_put (cs := #[.int .i64 a0_2, .int .i64 0, .int .i64 0, .int .i64 0, .slice none 0 0]) ?_ 1 _ rfl; (with_reducible repeat (first | refine blk_drewN ?_ _ | refine blk_drew ?_ | refine blk_alloc ?_ _)); refine blk_put (cs := #[.int .i64 0, .int .i64 0, .int .i64 0, .int .i64 0, .slice none 0 0]) ?_ 0 _ rfl; (with_reducible repeat (first | refine blk_drewN ?_ _ | refine blk_drew ?_ | refine blk_alloc ?_ _)); exact BK205.out) Try.underlying33 rfl (by kernel_rfl)) rfl ?_
    exact ⟨_, by first | rfl | (simp [errW_none, errW_some] <;> rfl) | (simp [*, errW_none, errW_some] <;> rfl), by (with_reducible repeat (first | apply Kd.R_alloc | apply Kd.R_drewN | apply Kd.R_drew)); exact Kd.R_mono (Kd.R_far (p := ⟨gb205, 4, none⟩) (Kd.R_far (p := ⟨gb205, 3, none⟩) (Kd.R_far (p := ⟨gb205, 2, none⟩) (Kd.R_far (p := ⟨gb205, 1, none⟩) (Kd.R_far (p := ⟨gb205, 0, none⟩) (Kd.R_types HO_207004.out BK205.out (by decide)) (fun _ hk => hk.2) (.int .i64 a0_2)) (fun _ hk => hk.2) (.int .i64 a0_3)) (fun _ hk => hk.2) (.int .i64 a0_0)) (fun _ hk => hk.2) (.int .i64 a0_1)) (fun _ hk => hk.2) (.slice Ao66 x207004_1.length co66)) (fun _ hk => hk.1), by repeat (first | (with_reducible first | exact HB.out | apply below_alloc | apply pw_below_drewN | apply below_drew1 | refine below_set ?_ GE204.out | refine below_set ?_ GE205.out | refine below_set ?_ GE206.out) | exact HB.out)⟩

end Go.Proofs.Ytlabiajcohmjhaa.Pr
-- shrunk
