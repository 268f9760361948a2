-- written by a program of this session's (a turned copy of the kit's printer); Lean checks it
import Derived.Test.YtoaijganmfijmaaK0
namespace Go.Proofs.Ytoaijganmfijmaa.Pr
open Go.RowKit Go.Proofs.YtoaijganmfijmaaW.PrintWords Go.Proofs.YtoaijganmfijmaaW.PrintLast Go.Proofs.YtoaijganmfijmaaW.PrintMore
attribute [local go_sem] max2_int min2_int max_two min_two max_three min_three max_four min_four   -- for this text's walks alone
set_option linter.unusedVariables false
set_option linter.unusedSimpArgs false

def hunk_group.l0 : Nat → List ByteArray → Int → Int → List (S53) → Int → Int → Int → Int → Int → Int → List ByteArray → Option (Int × Int × Int × Int × List ByteArray)
 | 0, _, _, _, _, _, _, _, _, _, _, _ => none
 | k + 1, x0, x11, x13, x45, x46, x47, x203000, x203001, x203002, x203003, x203004 => if x47 < x46 then (if 0 ≤ x47 then (if x47 < (x45.length : Int) then (if 0 ≤ x13 then (if x13 ≤ ((rd_T53 x45 x47).f0) then (if ((rd_T53 x45 x47).f0) ≤ (x0.length : Int) then ((hunk_signed.f k 32 ((x0.take (((rd_T53 x45 x47).f0) : Int).toNat).drop (x13 : Int).toNat)).bind fun t216 => (if 0 ≤ ((rd_T53 x45 x47).f0) then (if ((rd_T53 x45 x47).f0) ≤ (wrap64 (((rd_T53 x45 x47).f0) + ((rd_T53 x45 x47).f1))) then (if (wrap64 (((rd_T53 x45 x47).f0) + ((rd_T53 x45 x47).f1))) ≤ (x0.length : Int) then ((hunk_signed.f k 45 ((x0.take ((wrap64 (((rd_T53 x45 x47).f0) + ((rd_T53 x45 x47).f1))) : Int).toNat).drop (((rd_T53 x45 x47).f0) : Int).toNat)).bind fun t220 => ((hunk_signed.f k 43 ((rd_T53 x45 x47).f2)).bind fun t223 => ((slices_Concat_string_string.f (([x203004, t216, t220, t223] : List (List ByteArray)))).bind fun t229 => (hunk_group.l0 k x0 x11 (wrap64 (((rd_T53 x45 x47).f0) + ((rd_T53 x45 x47).f1))) x45 x46 (wrap64 (x47 + 1)) x203000 x203001 x203002 x203003 t229)))) else (none)) else (none)) else (none))) else (none)) else (none)) else (none)) else (none)) else (none)) else (if 0 ≤ x13 then (if x13 ≤ x11 then (if x11 ≤ (x0.length : Int) then ((hunk_signed.f k 32 ((x0.take (x11 : Int).toNat).drop (x13 : Int).toNat)).bind fun t204 => (if x203004.length + t204.length < 8796093022208 then ((some (x203004 ++ t204 : List ByteArray)).bind fun y207 => ((hunk_count.f k y207).bind fun bt210 => (some (x203000, bt210.1, x203002, bt210.2.1, y207)))) else (none))) else (none)) else (none)) else (none))
def hunk_group.f (k : Nat) (l0 : List ByteArray) (l1 : List (S53)) (a2 : Int) (a3 : Int) : Option (Int × Int × Int × Int × List ByteArray) := if 0 ≤ (wrap64 ((l1.length : Int) - 1)) then (if (wrap64 ((l1.length : Int) - 1)) < (l1.length : Int) then (if 0 < (l1.length : Int) then (hunk_group.l0 k l0 (mn (l0.length : Int) (wrap64 ((wrap64 (((rd_T53 l1 (wrap64 ((l1.length : Int) - 1))).f0) + ((rd_T53 l1 (wrap64 ((l1.length : Int) - 1))).f1))) + a2))) (mx 0 (wrap64 (((rd_T53 l1 0).f0) - a2))) l1 (l1.length : Int) 0 (mx 0 (wrap64 (((rd_T53 l1 0).f0) - a2))) 0 (wrap64 ((mx 0 (wrap64 (((rd_T53 l1 0).f0) - a2))) + a3)) 0 ([] : List ByteArray)) else (none)) else (none)) else (none)
theorem hunk_group.mono_l : ∀ k, (∀ y0 y1 y2 y3 y4 y5 y6 y7 y8 y9 y10, LeO (hunk_group.l0 k y0 y1 y2 y3 y4 y5 y6 y7 y8 y9 y10) (hunk_group.l0 (k + 1) y0 y1 y2 y3 y4 y5 y6 y7 y8 y9 y10))
 | 0 => fun _ _ _ _ _ _ _ _ _ _ _ r h => by simp [hunk_group.l0] at h
 | k + 1 => by
  have ih0 := hunk_group.mono_l k
  ·intro y0 y1 y2 y3 y4 y5 y6 y7 y8 y9 y10
   unfold hunk_group.l0
   repeat' first
   | (with_reducible exact ih0 _ _ _ _ _ _ _ _ _ _ _)
   | (with_reducible exact hunk_count.mono _ _)
   | (with_reducible exact hunk_signed.mono _ _ _)
   | (with_reducible exact LeO.refl _)
   | (with_reducible exact LeO.none _)
   | (with_reducible refine LeO.ite ?_ ?_)
   | (with_reducible refine LeO.bind ?_ (fun _ => ?_))
   | exact ih0 _ _ _ _ _ _ _ _ _ _ _
   | exact hunk_count.mono _ _
   | exact hunk_signed.mono _ _ _
   | exact LeO.none _
   | refine LeO.ite ?_ ?_
   | refine LeO.bind ?_ (fun _ => ?_)
theorem hunk_group.mono : ∀ a0 a1 a2 a3 k, LeO (hunk_group.f k a0 a1 a2 a3) (hunk_group.f (k + 1) a0 a1 a2 a3) := by
 intro a0 a1 a2 a3 k
 have ih0 := hunk_group.mono_l k
 unfold hunk_group.f
 repeat' first
   | (with_reducible exact ih0 _ _ _ _ _ _ _ _ _ _ _)
   | (with_reducible exact hunk_count.mono _ _)
   | (with_reducible exact hunk_signed.mono _ _ _)
   | (with_reducible exact LeO.refl _)
   | (with_reducible exact LeO.none _)
   | (with_reducible refine LeO.ite ?_ ?_)
   | (with_reducible refine LeO.bind ?_ (fun _ => ?_))
   | exact ih0 _ _ _ _ _ _ _ _ _ _ _
   | exact hunk_count.mono _ _
   | exact hunk_signed.mono _ _ _
   | exact LeO.none _
   | refine LeO.ite ?_ ?_
   | refine LeO.bind ?_ (fun _ => ?_)
def hunk_group.T9 : Bool × List (List Nat × List Nat) := (true, [([], []), ([0], [0]), ([], []), ([], []), ([], []), ([4], [4]), ([2, 3, 5], [2, 3, 5]), ([6], [6]), ([], []), ([], []), ([9], [9]), ([], []), ([11], [11]), ([], []), ([13], [13]), ([12, 14], [12, 14]), ([8, 10, 15], [8, 10, 15]), ([16, 7], [16]), ([], []), ([18], [18]), ([19, 17], [19]), ([1, 7, 17, 20], [1, 7, 17, 20]), ([21, 20], [21]), ([0, 1, 2, 3, 4, 5, 6, 7, 8, 9, 10, 11, 12, 13, 14, 15, 16, 17, 18, 19, 20, 21, 22], []), ([23, 22, 22, 0, 1, 2, 3, 4, 5, 6, 7, 8, 9, 10, 11, 12, 13, 14, 15, 16, 17, 18, 19, 20, 21, 22], [22, 23])])
def hunk_group.B9 : List Nat := [0, 1, 0, 0, 0, 16, 60, 124, 0, 0, 512, 0, 2048, 0, 8192, 30720, 65280, 131068, 0, 262144, 1048572, 2097151, 4194303, 8388607, 16777215]
theorem hunk_group.tab9 : rtab .any (opsOf Try.f43 9) = hunk_group.T9 := by kernel_rfl
theorem hunk_group.bits9 : waitsOk hunk_group.T9.2 hunk_group.B9 = true := by kernel_rfl
def hunk_group.T12 : Bool × List (List Nat × List Nat) := (true, [([], []), ([0], [0]), ([], []), ([], []), ([], []), ([2, 3, 4], [2, 3, 4]), ([5], [5]), ([1, 6, 6], [1, 6]), ([0, 1, 2, 3, 4, 5, 6, 7], []), ([8, 7, 7, 0, 1, 2, 3, 4, 5, 6, 7], [7, 8])])
def hunk_group.B12 : List Nat := [0, 1, 0, 0, 0, 28, 60, 127, 255, 511]
theorem hunk_group.tab12 : rtab .any (opsOf Try.f43 12) = hunk_group.T12 := by kernel_rfl
theorem hunk_group.bits12 : waitsOk hunk_group.T12.2 hunk_group.B12 = true := by kernel_rfl
set_option maxHeartbeats 8000000 in
set_option maxRecDepth 100000 in
theorem hunk_group.calls (k : Nat) (A0 : Option Addr) (c0 : Nat) (l0 : List ByteArray) (A1 : Option Addr) (c1 : Nat) (l1 : List (S53)) (a2 : Int) (a3 : Int) (r1 : Int) (r2 : Int) (r3 : Int) (r4 : Int) (r5 : List ByteArray) (w : World) (hr0 : Kd.C Kd.string w A0 l0.length l0) (hc0 : l0.length ≤ c0) (hr1 : Kd.C k53 w A1 l1.length l1) (hc1 : l1.length ≤ c1) (h : hunk_group.f k l0 l1 a2 a3 = some (r1, r2, r3, r4, r5)) :
  Calls Try.prog 43 #[.slice A0 l0.length c0, .slice A1 l1.length c1, .int .i64 a2, .int .i64 a3] w fun e w' => ∃ v4_ : Value, e = .returned (.agg #[.int .i64 r1, .int .i64 r2, .int .i64 r3, .int .i64 r4, v4_]) ∧ Kd.R Kd.string 9 w' w.heap.size (fun _ => True) v4_ r5 ∧ Below w.heap.size w w' := by
 have hu41 := Try.underlying41
 have hu53 := Try.underlying53
 have HR0 := Aside0.mk hr0
 have HC0 := Aside0.mk hc0
 clear hr0 hc0
 have HR1 := Aside0.mk hr1
 have HC1 := Aside0.mk hc1
 clear hr1 hc1
 have HB := Aside0.mk (Below.refl w.heap.size w)
 have H : (if 0 ≤ (wrap64 ((l1.length : Int) - 1)) then (if (wrap64 ((l1.length : Int) - 1)) < (l1.length : Int) then (if 0 < (l1.length : Int) then (hunk_group.l0 k l0 (mn (l0.length : Int) (wrap64 ((wrap64 (((rd_T53 l1 (wrap64 ((l1.length : Int) - 1))).f0) + ((rd_T53 l1 (wrap64 ((l1.length : Int) - 1))).f1))) + a2))) (mx 0 (wrap64 (((rd_T53 l1 0).f0) - a2))) l1 (l1.length : Int) 0 (mx 0 (wrap64 (((rd_T53 l1 0).f0) - a2))) 0 (wrap64 ((mx 0 (wrap64 (((rd_T53 l1 0).f0) - a2))) + a3)) 0 ([] : List ByteArray)) else (none)) else (none)) else (none)) = some (r1, r2, r3, r4, r5) := h
 clear h
 obtain ⟨ji5, hji5⟩ : ∃ j_ : Int, (wrap64 ((l1.length : Int) - 1)) = j_ := ⟨_, rfl⟩
 replace H : (if 0 ≤ (ji5) then (if (ji5) < (l1.length : Int) then (if 0 < (l1.length : Int) then (hunk_group.l0 k l0 (mn (l0.length : Int) (wrap64 ((wrap64 (((rd_T53 l1 (ji5)).f0) + ((rd_T53 l1 (ji5)).f1))) + a2))) (mx 0 (wrap64 (((rd_T53 l1 0).f0) - a2))) l1 (l1.length : Int) 0 (mx 0 (wrap64 (((rd_T53 l1 0).f0) - a2))) 0 (wrap64 ((mx 0 (wrap64 (((rd_T53 l1 0).f0) - a2))) + a3)) 0 ([] : List ByteArray)) else (none)) else (none)) else (none)) = some (r1, r2, r3, r4, r5) := by first | (rw [hji5] at H; exact H) | (simp only [hji5] at H ⊢; exact H)
 have hji5w : (IntKind.i64.wrap ((l1.length : Int) - 1)) = ji5 := (i64_w _).trans hji5
 by_cases c6 : 0 ≤ (ji5)
 ·rw [if_pos c6] at H
  have c6b0 : decide (0 ≤ (ji5)) = true := decide_eq_true c6
  clear c6
  by_cases c7 : (ji5) < (l1.length : Int)
  ·rw [if_pos c7] at H
   have c7b0 : decide ((ji5) < (l1.length : Int)) = true := decide_eq_true c7
   clear c7
   by_cases c8 : 0 < (l1.length : Int)
   ·rw [if_pos c8] at H
    have c8b0 : decide (0 < (l1.length : Int)) = true := decide_eq_true c8
    have c8b1 : decide (0 < l1.length) = true := decide_eq_true (by omega)
    clear c8
    obtain ⟨ji9, hji9⟩ : ∃ j_ : Int, (mx 0 (wrap64 (((rd_T53 l1 0).f0) - a2))) = j_ := ⟨_, rfl⟩
    replace H : (hunk_group.l0 k l0 (mn (l0.length : Int) (wrap64 ((wrap64 (((rd_T53 l1 (ji5)).f0) + ((rd_T53 l1 (ji5)).f1))) + a2))) ji9 l1 (l1.length : Int) 0 ji9 0 (wrap64 ((ji9) + a3)) 0 ([] : List ByteArray)) = some (r1, r2, r3, r4, r5) := by first | (rw [hji9] at H; exact H) | (simp only [hji9] at H ⊢; exact H)
    (try (have hji9l : 0 ≤ ji9 := by (rw [← hji9]; unfold mx; (repeat' split) <;> omega)))
    (try (have hji9m : 0 ≤ ji9 := by omega))
    have hji9_ : (if 0 < (wrap64 (((rd_T53 l1 0).f0) - a2)) then (wrap64 (((rd_T53 l1 0).f0) - a2)) else 0) = ji9 := hji9
    obtain ⟨ji10, hji10⟩ : ∃ j_ : Int, (mn (l0.length : Int) (wrap64 ((wrap64 (((rd_T53 l1 (ji5)).f0) + ((rd_T53 l1 (ji5)).f1))) + a2))) = j_ := ⟨_, rfl⟩
    replace H : (hunk_group.l0 k l0 ji10 ji9 l1 (l1.length : Int) 0 ji9 0 (wrap64 ((ji9) + a3)) 0 ([] : List ByteArray)) = some (r1, r2, r3, r4, r5) := by first | (rw [hji10] at H; exact H) | (simp only [hji10] at H ⊢; exact H)
    have hji10_ : (if (wrap64 ((wrap64 (((rd_T53 l1 (ji5)).f0) + ((rd_T53 l1 (ji5)).f1))) + a2)) < (l0.length : Int) then (wrap64 ((wrap64 (((rd_T53 l1 (ji5)).f0) + ((rd_T53 l1 (ji5)).f1))) + a2)) else (l0.length : Int)) = ji10 := hji10
    have H' := Aside0.mk H
    clear H
    go_enter Try.func43, Try.ntmps43
    go_wp2_with (first | ((with_reducible refine gate_dst (N := 8) rfl ?_); refine box_event ?hg (N := 8) ?hd (cs := #[.int .i64 0, .int .i64 0, .int .i64 0, .int .i64 0, .slice none 0 0]) (t := 41) ?hr ?_; (case hd => rfl); (case hg => rfl); (case hr => first | (go_simp; done) | (go_simp; rfl)); intro gb198 hg w11 hbox hb; have n0_ := Aside0.mk (below_step (by repeat (first | (with_reducible first | exact HB.out | apply below_alloc | apply pw_below_drewN | apply below_drew1) | exact HB.out)) hb); have n1_ := Aside0.mk (hbox); have n2_ := Aside0.mk ((by rw [hg]; exact (below_size (by repeat (first | (with_reducible first | exact HB.out | apply below_alloc | apply pw_below_drewN | apply below_drew1) | exact HB.out))) : w.heap.size ≤ gb198)); have n3_ := Aside0.mk ((by rw [hg]; exact (below_size (by repeat (first | (with_reducible first | exact HB.out | apply below_alloc | apply pw_below_drewN | apply below_drew1) | exact HB.out))) : w.heap.size ≤ gb198)); clear HB; have HB := n0_; have BK198 := n1_; have GW198 := n2_; have GE198 := n3_; clear n0_ n1_ n2_ n3_; clear hb hbox hg; have p199 : 0 ≤ ((ji5) : Int) := of_decide_eq_true (by first | (with_reducible assumption) | assumption); have q199 : (ji5) < (l1.length : Int) := of_decide_eq_true (by first | (with_reducible assumption) | assumption); obtain ⟨ad199, A199_2, c199_2, e199, hx199_0, hx199_1, hx199_2, hl199_2, hi199_2⟩ := at_T53 HR1.out (ji5) p199 q199; cases e199; replace hx199_0 := (HB.out.cell (World.block_lt_of_cell? w _ hx199_0)).trans hx199_0; replace hx199_1 := (HB.out.cell (World.block_lt_of_cell? w _ hx199_1)).trans hx199_1; replace hx199_2 := (HB.out.cell (World.block_lt_of_cell? w _ hx199_2)).trans hx199_2; have HR199_2 := Aside0.mk hi199_2; have HC199_2 := Aside0.mk hl199_2; clear hi199_2 hl199_2; replace p199 := eq_true p199; replace q199 := eq_true q199) | ((with_reducible refine gate_dst (N := 9) rfl ?_); refine box_event ?hg (N := 9) ?hd (cs := #[.int .i64 0, .int .i64 0, .slice none 0 0]) (t := 53) ?hr ?_; (case hd => rfl); (case hg => rfl); (case hr => first | (go_simp; done) | (go_simp; rfl)); intro gb200 hg w12 hbox hb; have n0_ := Aside0.mk (blk_below (g := gb198) (o := .cells #[.int .i64 0, .int .i64 0, .int .i64 0, .int .i64 0, .slice none 0 0] 41 (0, 0)) (by (with_reducible repeat (first | refine blk_drewN ?_ _ | refine blk_drew ?_ | refine blk_alloc ?_ _)); exact BK198.out) hb); have n1_ := Aside0.mk (below_step (by repeat (first | (with_reducible first | exact HB.out | apply below_alloc | apply pw_below_drewN | apply below_drew1 | refine below_set ?_ GE198.out) | exact HB.out)) hb); have n2_ := Aside0.mk (hbox); have n3_ := Aside0.mk ((by rw [hg]; exact (below_size (by repeat (first | (with_reducible first | exact HB.out | apply below_alloc | apply pw_below_drewN | apply below_drew1 | refine below_set ?_ GE198.out) | exact HB.out))) : w.heap.size ≤ gb200)); have n4_ := Aside0.mk ((by rw [hg]; exact (below_size (by repeat (first | (with_reducible first | exact HB.out | apply below_alloc | apply pw_below_drewN | apply below_drew1 | refine below_set ?_ GE198.out) | exact HB.out))) : w.heap.size ≤ gb200)); have n5_ := Aside0.mk ((by rw [hg]; exact Nat.ne_of_lt (blk_lt (g := gb198) (o := .cells #[.int .i64 0, .int .i64 0, .int .i64 0, .int .i64 0, .slice none 0 0] 41 (0, 0)) (by (with_reducible repeat (first | refine blk_drewN ?_ _ | refine blk_drew ?_ | refine blk_alloc ?_ _)); exact BK198.out)) : gb198 ≠ gb200)); have n6_ := Aside0.mk ((by rw [hg]; exact Nat.ne_of_gt (blk_lt (g := gb198) (o := .cells #[.int .i64 0, .int .i64 0, .int .i64 0, .int .i64 0, .slice none 0 0] 41 (0, 0)) (by (with_reducible repeat (first | refine blk_drewN ?_ _ | refine blk_drew ?_ | refine blk_alloc ?_ _)); exact BK198.out)) : gb200 ≠ gb198)); clear BK198; clear HB; have BK198 := n0_; have HB := n1_; have BK200 := n2_; have GW200 := n3_; have GE200 := n4_; have NB198_200 := n5_; have NB200_198 := n6_; clear n0_ n1_ n2_ n3_ n4_ n5_ n6_; clear hb hbox hg; have hnb13 := NB200_198.out; have hnc13 := NB198_200.out; have hcz14_0 : w12.cell? ⟨gb200, 0, none⟩ = some (.int .i64 0) := (blk_cell BK200.out 0).trans rfl; have hcz14_1 : w12.cell? ⟨gb200, 1, none⟩ = some (.int .i64 0) := (blk_cell BK200.out 1).trans rfl; have hcz14_2 : w12.cell? ⟨gb200, 2, none⟩ = some (.slice none 0 0) := (blk_cell BK200.out 2).trans rfl; have hfz14_0 := blk_frozen BK200.out 0; have hfz14_1 := blk_frozen BK200.out 1; have hfz14_2 := blk_frozen BK200.out 2; have p201 : 0 ≤ (0 : Int) := (by omega); have q201 : 0 < (l1.length : Int) := of_decide_eq_true (by first | (with_reducible assumption) | assumption); obtain ⟨ad201, A201_2, c201_2, e201, hx201_0, hx201_1, hx201_2, hl201_2, hi201_2⟩ := at_T53 HR1.out 0 p201 q201; obtain rfl : ad199 = ad201 := (by injection e201); have qi201 : (0 < l1.length) = True := eq_true (by omega); (try rw [show ((0 : Int)).toNat = 0 from rfl] at hx201_0); (try rw [show 0 * 3 = 0 from rfl] at hx201_0); (try rw [Addr.add_zero'] at hx201_0); (try rw [show ((0 : Int)).toNat = 0 from rfl] at hx201_1); (try rw [show 0 * 3 = 0 from rfl] at hx201_1); (try rw [Addr.add_zero'] at hx201_1); (try rw [show ((0 : Int)).toNat = 0 from rfl] at hx201_2); (try rw [show 0 * 3 = 0 from rfl] at hx201_2); (try rw [Addr.add_zero'] at hx201_2); have hn201_0 : ad199.block ≠ gb200 := Nat.ne_of_lt (Nat.lt_of_lt_of_le (by have := World.block_lt_of_cell? _ _ hx201_0; first | rwa [add_block] at this | exact this) GW200.out); have hn201_1 : ad199.block ≠ gb200 := Nat.ne_of_lt (Nat.lt_of_lt_of_le (by have := World.block_lt_of_cell? _ _ hx201_0; first | rwa [add_block] at this | exact this) GW200.out); have hn201_2 : ad199.block ≠ gb200 := Nat.ne_of_lt (Nat.lt_of_lt_of_le (by have := World.block_lt_of_cell? _ _ hx201_0; first | rwa [add_block] at this | exact this) GW200.out); replace hx201_0 := (HB.out.cell (World.block_lt_of_cell? w _ hx201_0)).trans hx201_0; replace hx201_1 := (HB.out.cell (World.block_lt_of_cell? w _ hx201_1)).trans hx201_1; replace hx201_2 := (HB.out.cell (World.block_lt_of_cell? w _ hx201_2)).trans hx201_2; have HR201_2 := Aside0.mk hi201_2; have HC201_2 := Aside0.mk hl201_2; clear hi201_2 hl201_2; replace hx201_0 := (cell_far (p := ⟨gb200, 0, none⟩) (by first | (rw [add_block]; exact hn201_0) | (show (Addr.add _ _).block ≠ _; rw [add_block]; exact hn201_0) | exact hn201_0) (.int .i64 ((rd_T53 l1 (ji5)).f0))).trans hx201_0; replace hx201_1 := (cell_far (p := ⟨gb200, 0, none⟩) (by first | (rw [add_block]; exact hn201_0) | (show (Addr.add _ _).block ≠ _; rw [add_block]; exact hn201_0) | exact hn201_0) (.int .i64 ((rd_T53 l1 (ji5)).f0))).trans hx201_1; replace hx201_2 := (cell_far (p := ⟨gb200, 0, none⟩) (by first | (rw [add_block]; exact hn201_0) | (show (Addr.add _ _).block ≠ _; rw [add_block]; exact hn201_0) | exact hn201_0) (.int .i64 ((rd_T53 l1 (ji5)).f0))).trans hx201_2; replace hx201_0 := (cell_far (p := ⟨gb200, 1, none⟩) (by first | (rw [add_block]; exact hn201_1) | (show (Addr.add _ _).block ≠ _; rw [add_block]; exact hn201_1) | exact hn201_1) (.int .i64 ((rd_T53 l1 (ji5)).f1))).trans hx201_0; replace hx201_1 := (cell_far (p := ⟨gb200, 1, none⟩) (by first | (rw [add_block]; exact hn201_1) | (show (Addr.add _ _).block ≠ _; rw [add_block]; exact hn201_1) | exact hn201_1) (.int .i64 ((rd_T53 l1 (ji5)).f1))).trans hx201_1; replace hx201_2 := (cell_far (p := ⟨gb200, 1, none⟩) (by first | (rw [add_block]; exact hn201_1) | (show (Addr.add _ _).block ≠ _; rw [add_block]; exact hn201_1) | exact hn201_1) (.int .i64 ((rd_T53 l1 (ji5)).f1))).trans hx201_2; replace hx201_0 := (cell_far (p := ⟨gb200, 2, none⟩) (by first | (rw [add_block]; exact hn201_2) | (show (Addr.add _ _).block ≠ _; rw [add_block]; exact hn201_2) | exact hn201_2) (.slice A199_2 ((rd_T53 l1 (ji5)).f2).length c199_2)).trans hx201_0; replace hx201_1 := (cell_far (p := ⟨gb200, 2, none⟩) (by first | (rw [add_block]; exact hn201_2) | (show (Addr.add _ _).block ≠ _; rw [add_block]; exact hn201_2) | exact hn201_2) (.slice A199_2 ((rd_T53 l1 (ji5)).f2).length c199_2)).trans hx201_1; replace hx201_2 := (cell_far (p := ⟨gb200, 2, none⟩) (by first | (rw [add_block]; exact hn201_2) | (show (Addr.add _ _).block ≠ _; rw [add_block]; exact hn201_2) | exact hn201_2) (.slice A199_2 ((rd_T53 l1 (ji5)).f2).length c199_2)).trans hx201_2; clear hn201_0; clear hn201_1; clear hn201_2; replace p201 := eq_true p201; replace q201 := eq_true q201) | ((with_reducible refine gate_dst (N := 12) rfl ?_); refine box_event ?hg (N := 12) ?hd (cs := #[.int .i64 0, .int .i64 0, .int .i64 0, .int .i64 0, .slice none 0 0]) (t := 41) ?hr ?_; (case hd => rfl); (case hg => rfl); (case hr => first | (go_simp; done) | (go_simp; rfl)); intro gb202 hg w15 hbox hb; have n0_ := Aside0.mk (blk_below (g := gb198) (o := .cells #[.int .i64 0, .int .i64 0, .int .i64 0, .int .i64 0, .slice none 0 0] 41 (0, 0)) (by (with_reducible repeat (first | refine blk_drewN ?_ _ | refine blk_drew ?_ | refine blk_alloc ?_ _)); refine blk_far ?_ NB198_200.out _; (with_reducible repeat (first | refine blk_drewN ?_ _ | refine blk_drew ?_ | refine blk_alloc ?_ _)); refine blk_far ?_ NB198_200.out _; (with_reducible repeat (first | refine blk_drewN ?_ _ | refine blk_drew ?_ | refine blk_alloc ?_ _)); refine blk_far ?_ NB198_200.out _; (with_reducible repeat (first | refine blk_drewN ?_ _ | refine blk_drew ?_ | refine blk_alloc ?_ _)); exact BK198.out) hb); have n1_ := Aside0.mk (blk_below (g := gb200) (o := .cells #[.int .i64 ((rd_T53 l1 (ji5)).f0), .int .i64 ((rd_T53 l1 (ji5)).f1), .slice A199_2 ((rd_T53 l1 (ji5)).f2).length c199_2] 53 (0, 0)) (by (with_reducible repeat (first | refine blk_drewN ?_ _ | refine blk_drew ?_ | refine blk_alloc ?_ _)); refine blk_put (cs := #[.int .i64 ((rd_T53 l1 (ji5)).f0), .int .i64 ((rd_T53 l1 (ji5)).f1), .slice none 0 0]) ?_ 2 _ rfl; (with_reducible repeat (first | refine blk_drewN ?_ _ | refine blk_drew ?_ | refine blk_alloc ?_ _)); refine blk_put (cs := #[.int .i64 ((rd_T53 l1 (ji5)).f0), .int .i64 0, .slice none 0 0]) ?_ 1 _ rfl; (with_reducible repeat (first | refine blk_drewN ?_ _ | refine blk_drew ?_ | refine blk_alloc ?_ _)); refine blk_put (cs := #[.int .i64 0, .int .i64 0, .slice none 0 0]) ?_ 0 _ rfl; (with_reducible repeat (first | refine blk_drewN ?_ _ | refine blk_drew ?_ | refine blk_alloc ?_ _)); exact BK200.out) hb); have n2_ := Aside0.mk (below_step (by repeat (first | (with_reducible first | exact HB.out | apply below_alloc | apply pw_below_drewN | apply below_drew1 | refine below_set ?_ GE198.out | refine below_set ?_ GE200.out) | exact HB.out)) hb); have n3_ := Aside0.mk (hbox); have n4_ := Aside0.mk ((by rw [hg]; exact (below_size (by repeat (first | (with_reducible first | exact HB.out | apply below_alloc | apply pw_below_drewN | apply below_drew1 | refine below_set ?_ GE198.out | refine below_set ?_ GE200.out) | exact HB.out))) : w.heap.size ≤ gb202)); have n5_ := Aside0.mk ((by rw [hg]; exact (below_size (by repeat (first | (with_reducible first | exact HB.out | apply below_alloc | apply pw_below_drewN | apply below_drew1 | refine below_set ?_ GE198.out | refine below_set ?_ GE200.out) | exact HB.out))) : w.heap.size ≤ gb202)); have n6_ := Aside0.mk ((by rw [hg]; exact Nat.ne_of_lt (blk_lt (g := gb198) (o := .cells #[.int .i64 0, .int .i64 0, .int .i64 0, .int .i64 0, .slice none 0 0] 41 (0, 0)) (by (with_reducible repeat (first | refine blk_drewN ?_ _ | refine blk_drew ?_ | refine blk_alloc ?_ _)); refine blk_far ?_ NB198_200.out _; (with_reducible repeat (first | refine blk_drewN ?_ _ | refine blk_drew ?_ | refine blk_alloc ?_ _)); refine blk_far ?_ NB198_200.out _; (with_reducible repeat (first | refine blk_drewN ?_ _ | refine blk_drew ?_ | refine blk_alloc ?_ _)); refine blk_far ?_ NB198_200.out _; (with_reducible repeat (first | refine blk_drewN ?_ _ | refine blk_drew ?_ | refine blk_alloc ?_ _)); exact BK198.out)) : gb198 ≠ gb202)); have n7_ := Aside0.mk ((by rw [hg]; exact Nat.ne_of_gt (blk_lt (g := gb198) (o := .cells #[.int .i64 0, .int .i64 0, .int .i64 0, .int .i64 0, .slice none 0 0] 41 (0, 0)) (by (with_reducible repeat (first | refine blk_drewN ?_ _ | refine blk_drew ?_ | refine blk_alloc ?_ _)); refine blk_far ?_ NB198_200.out _; (with_reducible repeat (first | refine blk_drewN ?_ _ | refine blk_drew ?_ | refine blk_alloc ?_ _)); refine blk_far ?_ NB198_200.out _; (with_reducible repeat (first | refine blk_drewN ?_ _ | refine blk_drew ?_ | refine blk_alloc ?_ _)); refine blk_far ?_ NB198_200.out _; (with_reducible repeat (first | refine blk_drewN ?_ _ | refine blk_drew ?_ | refine blk_alloc ?_ _)); exact BK198.out)) : gb202 ≠ gb198)); have n8_ := Aside0.mk ((by rw [hg]; exact Nat.ne_of_lt (blk_lt (g := gb200) (o := .cells #[.int .i64 ((rd_T53 l1 (ji5)).f0), .int .i64 ((rd_T53 l1 (ji5)).f1), .slice A199_2 ((rd_T53 l1 (ji5)).f2).length c199_2] 53 (0, 0)) (by (with_reducible repeat (first | refine blk_drewN ?_ _ | refine blk_drew ?_ | refine blk_alloc ?_ _)); refine blk_put (cs := #[.int .i64 ((rd_T53 l1 (ji5)).f0), .int .i64 ((rd_T53 l1 (ji5)).f1), .slice none 0 0]) ?_ 2 _ rfl; (with_reducible repeat (first | refine blk_drewN ?_ _ | refine blk_drew ?_ | refine blk_alloc ?_ _)); refine blk_put (cs := #[.int .i64 ((rd_T53 l1 (ji5)).f0), .int .i64 0, .slice none 0 0]) ?_ 1 _ rfl; (with_reducible repeat (first | refine blk_drewN ?_ _ | refine blk_drew ?_ | refine blk_alloc ?_ _)); refine blk_put (cs := #[.int .i64 0, .int .i64 0, .slice none 0 0]) ?_ 0 _ rfl; (with_reducible repeat (first | refine blk_drewN ?_ _ | refine blk_drew ?_ | refine blk_alloc ?_ _)); exact BK200.out)) : gb200 ≠ gb202)); have n9_ := Aside0.mk ((by rw [hg]; exact Nat.ne_of_gt (blk_lt (g := gb200) (o := .cells #[.int .i64 ((rd_T53 l1 (ji5)).f0), .int .i64 ((rd_T53 l1 (ji5)).f1), .slice A199_2 ((rd_T53 l1 (ji5)).f2).length c199_2] 53 (0, 0)) (by (with_reducible repeat (first | refine blk_drewN ?_ _ | refine blk_drew ?_ | refine blk_alloc ?_ _)); refine blk_put (cs := #[.int .i64 ((rd_T53 l1 (ji5)).f0), .int .i64 ((rd_T53 l1 (ji5)).f1), .slice none 0 0]) ?_ 2 _ rfl; (with_reducible repeat (first | refine blk_drewN ?_ _ | refine blk_drew ?_ | refine blk_alloc ?_ _)); refine blk_put (cs := #[.int .i64 ((rd_T53 l1 (ji5)).f0), .int .i64 0, .slice none 0 0]) ?_ 1 _ rfl; (with_reducible repeat (first | refine blk_drewN ?_ _ | refine blk_drew ?_ | refine blk_alloc ?_ _)); refine blk_put (cs := #[.int .i64 0, .int .i64 0, .slice none 0 0]) ?_ 0 _ rfl; (with_reducible repeat (first | refine blk_drewN ?_ _ | refine blk_drew ?_ | refine blk_alloc ?_ _)); exact BK200.out)) : gb202 ≠ gb200)); clear BK198; clear BK200; clear HB; have BK198 := n0_; have BK200 := n1_; have HB := n2_; have BK202 := n3_; have GW202 := n4_; have GE202 := n5_; have NB198_202 := n6_; have NB202_198 := n7_; have NB200_202 := n8_; have NB202_200 := n9_; clear n0_ n1_ n2_ n3_ n4_ n5_ n6_ n7_ n8_ n9_; clear hb hbox hg; have hnb16 := NB202_198.out; have hnc16 := NB198_202.out; have hnb17 := NB202_200.out; have hnc17 := NB200_202.out; have hcz18_0 : w15.cell? ⟨gb202, 0, none⟩ = some (.int .i64 0) := (blk_cell BK202.out 0).trans rfl; have hcz18_1 : w15.cell? ⟨gb202, 1, none⟩ = some (.int .i64 0) := (blk_cell BK202.out 1).trans rfl; have hcz18_2 : w15.cell? ⟨gb202, 2, none⟩ = some (.int .i64 0) := (blk_cell BK202.out 2).trans rfl; have hcz18_3 : w15.cell? ⟨gb202, 3, none⟩ = some (.int .i64 0) := (blk_cell BK202.out 3).trans rfl; have hcz18_4 : w15.cell? ⟨gb202, 4, none⟩ = some (.slice none 0 0) := (blk_cell BK202.out 4).trans rfl; have hfz18_0 := blk_frozen BK202.out 0; have hfz18_1 := blk_frozen BK202.out 1; have hfz18_2 := blk_frozen BK202.out 2; have hfz18_3 := blk_frozen BK202.out 3; have hfz18_4 := blk_frozen BK202.out 4))
    go_loopg [13, 47] k (fun kq v13 v47 w' => ∃ (x13_1 : Int) (x47_1 : Int) (x203004_1 : List ByteArray) (u203004 : Value), v13 = .int .i64 x13_1 ∧ v47 = .int .i64 x47_1 ∧ Aside0 (hunk_group.l0 kq l0 ji10 x13_1 l1 (l1.length : Int) x47_1 ji9 0 (wrap64 ((ji9) + a3)) 0 x203004_1 = some (r1, r2, r3, r4, r5)) ∧ Aside0 (kq ≤ k) ∧ Aside0 (Kd.R Kd.string 9 w' w.heap.size (fun _ => True) u203004 x203004_1) ∧ Aside0 (w'.heap[gb198]? = some (.cells #[.int .i64 0, .int .i64 0, .int .i64 0, .int .i64 0, (.slice none 0 0)] 41 (0, 0))) ∧ Aside0 (w'.heap[gb200]? = some (.cells #[.int .i64 ((rd_T53 l1 (ji5)).f0), .int .i64 ((rd_T53 l1 (ji5)).f1), (.slice A199_2 ((rd_T53 l1 (ji5)).f2).length c199_2)] 53 (0, 0))) ∧ Aside0 (w'.heap[gb202]? = some (.cells #[.int .i64 ji9, .int .i64 0, .int .i64 (wrap64 ((ji9) + a3)), .int .i64 0, u203004] 41 (0, 0))) ∧ Aside0 (Below w.heap.size w w'))
    case atStart => exact ⟨(ji9), (0), (([] : List ByteArray)), (.slice none 0 0), (by first | rfl | (simp; done) | (simp only [← hji9] <;> (first | rfl | simp)) | (simp [*]; done)), (by first | rfl | (simp; done) | (simp [*]; done)), H', ⟨Nat.le_refl _⟩, ⟨by first | exact Kd.R_nil _ _ _ _ _ | exact Kd.N_nil _ _ _ _ _ | exact Kd.V_nil _ _ _ _ _ | exact Kd.Q_nil _ _ _ _ _ | exact Kd.S_nil _ _ _ _ _⟩, ⟨by (with_reducible repeat (first | refine blk_drewN ?_ _ | refine blk_drew ?_ | refine blk_alloc ?_ _)); refine blk_far ?_ NB198_202.out _; (with_reducible repeat (first | refine blk_drewN ?_ _ | refine blk_drew ?_ | refine blk_alloc ?_ _)); refine blk_far ?_ NB198_202.out _; (with_reducible repeat (first | refine blk_drewN ?_ _ | refine blk_drew ?_ | refine blk_alloc ?_ _)); refine blk_far ?_ NB198_202.out _; (with_reducible repeat (first | refine blk_drewN ?_ _ | refine blk_drew ?_ | refine blk_alloc ?_ _)); refine blk_far ?_ NB198_202.out _; (with_reducible repeat (first | refine blk_drewN ?_ _ | refine blk_drew ?_ | refine blk_alloc ?_ _)); refine blk_far ?_ NB198_202.out _; (with_reducible repeat (first | refine blk_drewN ?_ _ | refine blk_drew ?_ | refine blk_alloc ?_ _)); exact BK198.out⟩, ⟨by (with_reducible repeat (first | refine blk_drewN ?_ _ | refine blk_drew ?_ | refine blk_alloc ?_ _)); refine blk_far ?_ NB200_202.out _; (with_reducible repeat (first | refine blk_drewN ?_ _ | refine blk_drew ?_ | refine blk_alloc ?_ _)); refine blk_far ?_ NB200_202.out _; (with_reducible repeat (first | refine blk_drewN ?_ _ | refine blk_drew ?_ | refine blk_alloc ?_ _)); refine blk_far ?_ NB200_202.out _; (with_reducible repeat (first | refine blk_drewN ?_ _ | refine blk_drew ?_ | refine blk_alloc ?_ _)); refine blk_far ?_ NB200_202.out _; (with_reducible repeat (first | refine blk_drewN ?_ _ | refine blk_drew ?_ | refine blk_alloc ?_ _)); refine blk_far ?_ NB200_202.out _; (with_reducible repeat (first | refine blk_drewN ?_ _ | refine blk_drew ?_ | refine blk_alloc ?_ _)); exact BK200.out⟩, ⟨by (with_reducible repeat (first | refine blk_drewN ?_ _ | refine blk_drew ?_ | refine blk_alloc ?_ _)); refine blk_put (cs := #[.int .i64 ji9, .int .i64 0, .int .i64 (wrap64 ((ji9) + a3)), .int .i64 0, .slice none 0 0]) ?_ 4 _ rfl; (with_reducible repeat (first | refine blk_drewN ?_ _ | refine blk_drew ?_ | refine blk_alloc ?_ _)); refine blk_put (cs := #[.int .i64 ji9, .int .i64 0, .int .i64 (wrap64 ((ji9) + a3)), .int .i64 0, .slice none 0 0]) ?_ 3 _ rfl; (with_reducible repeat (first | refine blk_drewN ?_ _ | refine blk_drew ?_ | refine blk_alloc ?_ _)); refine blk_put (cs := #[.int .i64 ji9, .int .i64 0, .int .i64 0, .int .i64 0, .slice none 0 0]) ?_ 2 _ rfl; (with_reducible repeat (first | refine blk_drewN ?_ _ | refine blk_drew ?_ | refine blk_alloc ?_ _)); refine blk_put (cs := #[.int .i64 ji9, .int .i64 0, .int .i64 0, .int .i64 0, .slice none 0 0]) ?_ 1 _ rfl; (with_reducible repeat (first | refine blk_drewN ?_ _ | refine blk_drew ?_ | refine blk_alloc ?_ _)); refine blk_put (cs := #[.int .i64 0, .int .i64 0, .int .i64 0, .int .i64 0, .slice none 0 0]) ?_ 0 _ rfl; (with_reducible repeat (first | refine blk_drewN ?_ _ | refine blk_drew ?_ | refine blk_alloc ?_ _)); exact BK202.out⟩, ⟨by repeat (first | (with_reducible first | exact HB.out | apply below_alloc | apply pw_below_drewN | apply below_drew1 | refine below_set ?_ GE198.out | refine below_set ?_ GE200.out | refine below_set ?_ GE202.out) | exact HB.out)⟩⟩
    case round =>
     clear H'
     try clear c1
     try clear p1
     try clear q1
     try clear hx1
     try clear c2
     try clear p2
     try clear q2
     try clear hx2
     try clear qi2
     try clear c4
     try clear c6
     try clear c6b0
     try clear p6
     try clear c7
     try clear c7b0
     try clear c8
     try clear c8b0
     try clear c8b1
     try clear c13
     try clear c16
     try clear c17
     try clear hcz14_0
     try clear hcz14_1
     try clear hcz14_2
     try clear hcz18_0
     try clear hcz18_1
     try clear hcz18_2
     try clear hcz18_3
     try clear hcz18_4
     try clear hfz14_0
     try clear hfz14_1
     try clear hfz14_2
     try clear hfz18_0
     try clear hfz18_1
     try clear hfz18_2
     try clear hfz18_3
     try clear hfz18_4
     try clear hx199_0
     try clear hx199_1
     try clear hx199_2
     try clear hx201_0
     try clear hx201_1
     try clear hx201_2
     try clear p199
     try clear p201
     try clear q199
     try clear q201
     obtain ⟨x13_1, x47_1, x203004_1, u203004, rfl, rfl, HA, HK1, HO_203004, BK198, BK200, BK202, HB⟩ := hrel
     cases gk with
     | zero => exact absurd HA.out (by simp [hunk_group.l0])
     | succ k1 =>
      have H := HA.out
      clear HA
      simp only [hunk_group.l0] at H
      by_cases c19 : x47_1 < (l1.length : Int)
      ·rw [if_pos c19] at H
       have c19b0 : decide (x47_1 < (l1.length : Int)) = true := decide_eq_true c19
       clear c19
       by_cases c20 : 0 ≤ x47_1
       ·rw [if_pos c20] at H
        have c20b0 : decide (0 ≤ x47_1) = true := decide_eq_true c20
        clear c20
        by_cases c21 : x47_1 < (l1.length : Int)
        ·rw [if_pos c21] at H
         have c21b0 : decide (x47_1 < (l1.length : Int)) = true := decide_eq_true c21
         clear c21
         by_cases c22 : 0 ≤ x13_1
         ·rw [if_pos c22] at H
          have c22b0 := eq_true c22
          have c22b1 : decide (0 ≤ x13_1) = true := decide_eq_true c22
          clear c22
          by_cases c23 : x13_1 ≤ ((rd_T53 l1 x47_1).f0)
          ·rw [if_pos c23] at H
           have c23b0 := eq_true c23
           have c23b1 : decide (x13_1 ≤ ((rd_T53 l1 x47_1).f0)) = true := decide_eq_true c23
           clear c23
           by_cases c24 : ((rd_T53 l1 x47_1).f0) ≤ (l0.length : Int)
           ·rw [if_pos c24] at H
            have c24b0 := eq_true c24
            have c24b1 : decide (((rd_T53 l1 x47_1).f0) ≤ (l0.length : Int)) = true := decide_eq_true c24
            clear c24
            replace H := Option.bind_eq_some_iff.mp H
            obtain ⟨t216, A250, H⟩ := H
            replace H : (if 0 ≤ ((rd_T53 l1 x47_1).f0) then (if ((rd_T53 l1 x47_1).f0) ≤ (wrap64 (((rd_T53 l1 x47_1).f0) + ((rd_T53 l1 x47_1).f1))) then (if (wrap64 (((rd_T53 l1 x47_1).f0) + ((rd_T53 l1 x47_1).f1))) ≤ (l0.length : Int) then ((hunk_signed.f k1 45 ((l0.take ((wrap64 (((rd_T53 l1 x47_1).f0) + ((rd_T53 l1 x47_1).f1))) : Int).toNat).drop (((rd_T53 l1 x47_1).f0) : Int).toNat)).bind fun t220 => ((hunk_signed.f k1 43 ((rd_T53 l1 x47_1).f2)).bind fun t223 => ((slices_Concat_string_string.f (([x203004_1, t216, t220, t223] : List (List ByteArray)))).bind fun t229 => (hunk_group.l0 k1 l0 ji10 (wrap64 (((rd_T53 l1 x47_1).f0) + ((rd_T53 l1 x47_1).f1))) l1 (l1.length : Int) (wrap64 (x47_1 + 1)) ji9 0 (wrap64 ((ji9) + a3)) 0 t229)))) else (none)) else (none)) else (none)) = some (r1, r2, r3, r4, r5) := H
            have A25 := Aside0.mk A250
            clear A250
            by_cases c26 : 0 ≤ ((rd_T53 l1 x47_1).f0)
            ·rw [if_pos c26] at H
             have c26b0 := eq_true c26
             have c26b1 : decide (0 ≤ ((rd_T53 l1 x47_1).f0)) = true := decide_eq_true c26
             clear c26
             by_cases c27 : ((rd_T53 l1 x47_1).f0) ≤ (wrap64 (((rd_T53 l1 x47_1).f0) + ((rd_T53 l1 x47_1).f1)))
             ·rw [if_pos c27] at H
              have c27b0 := eq_true c27
              have c27b1 : decide (((rd_T53 l1 x47_1).f0) ≤ (wrap64 (((rd_T53 l1 x47_1).f0) + ((rd_T53 l1 x47_1).f1)))) = true := decide_eq_true c27
              by_cases c28 : (wrap64 (((rd_T53 l1 x47_1).f0) + ((rd_T53 l1 x47_1).f1))) ≤ (l0.length : Int)
              ·rw [if_pos c28] at H
               have c28b0 := eq_true c28
               have c28b1 : decide ((wrap64 (((rd_T53 l1 x47_1).f0) + ((rd_T53 l1 x47_1).f1))) ≤ (l0.length : Int)) = true := decide_eq_true c28
               replace H := Option.bind_eq_some_iff.mp H
               obtain ⟨t220, A290, H⟩ := H
               replace H : ((hunk_signed.f k1 43 ((rd_T53 l1 x47_1).f2)).bind fun t223 => ((slices_Concat_string_string.f (([x203004_1, t216, t220, t223] : List (List ByteArray)))).bind fun t229 => (hunk_group.l0 k1 l0 ji10 (wrap64 (((rd_T53 l1 x47_1).f0) + ((rd_T53 l1 x47_1).f1))) l1 (l1.length : Int) (wrap64 (x47_1 + 1)) ji9 0 (wrap64 ((ji9) + a3)) 0 t229))) = some (r1, r2, r3, r4, r5) := H
               have A29 := Aside0.mk A290
               clear A290
               replace H := Option.bind_eq_some_iff.mp H
               obtain ⟨t223, A300, H⟩ := H
               replace H : ((slices_Concat_string_string.f (([x203004_1, t216, t220, t223] : List (List ByteArray)))).bind fun t229 => (hunk_group.l0 k1 l0 ji10 (wrap64 (((rd_T53 l1 x47_1).f0) + ((rd_T53 l1 x47_1).f1))) l1 (l1.length : Int) (wrap64 (x47_1 + 1)) ji9 0 (wrap64 ((ji9) + a3)) 0 t229)) = some (r1, r2, r3, r4, r5) := H
               have A30 := Aside0.mk A300
               clear A300
               obtain ⟨y226, hy226⟩ : ∃ y_ : List (List ByteArray), y_ = (([x203004_1, t216, t220, t223] : List (List ByteArray))) := ⟨_, rfl⟩
               replace H : ((slices_Concat_string_string.f y226).bind fun t229 => (hunk_group.l0 k1 l0 ji10 (wrap64 (((rd_T53 l1 x47_1).f0) + ((rd_T53 l1 x47_1).f1))) l1 (l1.length : Int) (wrap64 (x47_1 + 1)) ji9 0 (wrap64 ((ji9) + a3)) 0 t229)) = some (r1, r2, r3, r4, r5) := by first | (rw [hy226]; with_reducible exact H) | (have H2_ := (Option.bind_some _ _).symm.trans H; rw [hy226]; with_reducible exact H2_) | (have H2_ := (Option.bind_some _ _).symm.trans H; with_reducible exact H2_) | with_reducible exact H | (rw [hy226]; exact H) | exact H
               have Ny226 := Aside0.mk hy226
               clear hy226
               replace H := Option.bind_eq_some_iff.mp H
               obtain ⟨t229, A310, H⟩ := H
               replace H : (hunk_group.l0 k1 l0 ji10 (wrap64 (((rd_T53 l1 x47_1).f0) + ((rd_T53 l1 x47_1).f1))) l1 (l1.length : Int) (wrap64 (x47_1 + 1)) ji9 0 (wrap64 ((ji9) + a3)) 0 t229) = some (r1, r2, r3, r4, r5) := H
               have A31 := Aside0.mk A310
               clear A310
               have H' := Aside0.mk H
               clear H
               have p213 : 0 ≤ (x47_1 : Int) := of_decide_eq_true (by first | (with_reducible assumption) | assumption)
               have q213 : x47_1 < (l1.length : Int) := of_decide_eq_true (by first | (with_reducible assumption) | assumption)
               obtain ⟨ad213, A213_2, c213_2, e213, hx213_0, hx213_1, hx213_2, hl213_2, hi213_2⟩ := at_T53 HR1.out x47_1 p213 q213
               obtain rfl : ad199 = ad213 := (by injection e213)
               replace hx213_0 := (HB.out.cell (World.block_lt_of_cell? w _ hx213_0)).trans hx213_0
               replace hx213_1 := (HB.out.cell (World.block_lt_of_cell? w _ hx213_1)).trans hx213_1
               replace hx213_2 := (HB.out.cell (World.block_lt_of_cell? w _ hx213_2)).trans hx213_2
               have HR213_2 := Aside0.mk hi213_2
               have HC213_2 := Aside0.mk hl213_2
               clear hi213_2 hl213_2
               replace p213 := eq_true p213
               replace q213 := eq_true q213
               try go_wp2_with (((with_reducible refine gate_dst (N := 15) rfl ?_); refine box_event ?hg (N := 15) ?hd (cs := #[.int .i64 0, .int .i64 0, .slice none 0 0]) (t := 53) ?hr ?_; (case hd => rfl); (case hg => rfl); (case hr => first | (go_simp; done) | (go_simp; rfl)); intro gb214 hg w32 hbox hb; have n0_ := Aside0.mk (Kd.R_below (by (with_reducible repeat (first | apply Kd.R_alloc | apply Kd.R_drewN | apply Kd.R_drew)); exact HO_203004.out) hb); have n1_ := Aside0.mk (blk_below (g := gb198) (o := .cells #[.int .i64 0, .int .i64 0, .int .i64 0, .int .i64 0, .slice none 0 0] 41 (0, 0)) (by (with_reducible repeat (first | refine blk_drewN ?_ _ | refine blk_drew ?_ | refine blk_alloc ?_ _)); exact BK198.out) hb); have n2_ := Aside0.mk (blk_below (g := gb200) (o := .cells #[.int .i64 ((rd_T53 l1 (ji5)).f0), .int .i64 ((rd_T53 l1 (ji5)).f1), .slice A199_2 ((rd_T53 l1 ji5).f2).length c199_2] 53 (0, 0)) (by (with_reducible repeat (first | refine blk_drewN ?_ _ | refine blk_drew ?_ | refine blk_alloc ?_ _)); exact BK200.out) hb); have n3_ := Aside0.mk (blk_below (g := gb202) (o := .cells #[.int .i64 ji9, .int .i64 0, .int .i64 (wrap64 ((ji9) + a3)), .int .i64 0, u203004] 41 (0, 0)) (by (with_reducible repeat (first | refine blk_drewN ?_ _ | refine blk_drew ?_ | refine blk_alloc ?_ _)); exact BK202.out) hb); have n4_ := Aside0.mk (below_step (by repeat (first | (with_reducible first | exact HB.out | apply below_alloc | apply pw_below_drewN | apply below_drew1 | refine below_set ?_ GE198.out | refine below_set ?_ GE200.out | refine below_set ?_ GE202.out) | exact HB.out)) hb); have n5_ := Aside0.mk (hbox); have n6_ := Aside0.mk ((by rw [hg]; exact (below_size (by repeat (first | (with_reducible first | exact HB.out | apply below_alloc | apply pw_below_drewN | apply below_drew1 | refine below_set ?_ GE198.out | refine below_set ?_ GE200.out | refine below_set ?_ GE202.out) | exact HB.out))) : w.heap.size ≤ gb214)); have n7_ := Aside0.mk ((by rw [hg]; exact (below_size (by repeat (first | (with_reducible first | exact HB.out | apply below_alloc | apply pw_below_drewN | apply below_drew1 | refine below_set ?_ GE198.out | refine below_set ?_ GE200.out | refine below_set ?_ GE202.out) | exact HB.out))) : w.heap.size ≤ gb214)); have n8_ := Aside0.mk ((by rw [hg]; exact Nat.ne_of_lt (blk_lt (g := gb198) (o := .cells #[.int .i64 0, .int .i64 0, .int .i64 0, .int .i64 0, .slice none 0 0] 41 (0, 0)) (by (with_reducible repeat (first | refine blk_drewN ?_ _ | refine blk_drew ?_ | refine blk_alloc ?_ _)); exact BK198.out)) : gb198 ≠ gb214)); have n9_ := Aside0.mk ((by rw [hg]; exact Nat.ne_of_gt (blk_lt (g := gb198) (o := .cells #[.int .i64 0, .int .i64 0, .int .i64 0, .int .i64 0, .slice none 0 0] 41 (0, 0)) (by (with_reducible repeat (first | refine blk_drewN ?_ _ | refine blk_drew ?_ | refine blk_alloc ?_ _)); exact BK198.out)) : gb214 ≠ gb198)); have n10_ := Aside0.mk ((by rw [hg]; exact Nat.ne_of_lt (blk_lt (g := gb200) (o := .cells #[.int .i64 ((rd_T53 l1 (ji5)).f0), .int .i64 ((rd_T53 l1 (ji5)).f1), .slice A199_2 ((rd_T53 l1 ji5).f2).length c199_2] 53 (0, 0)) (by (with_reducible repeat (first | refine blk_drewN ?_ _ | refine blk_drew ?_ | refine blk_alloc ?_ _)); exact BK200.out)) : gb200 ≠ gb214)); have n11_ := Aside0.mk ((by rw [hg]; exact Nat.ne_of_gt (blk_lt (g := gb200) (o := .cells #[.int .i64 ((rd_T53 l1 (ji5)).f0), .int .i64 ((rd_T53 l1 (ji5)).f1), .slice A199_2 ((rd_T53 l1 ji5).f2).length c199_2] 53 (0, 0)) (by (with_reducible repeat (first | refine blk_drewN ?_ _ | refine blk_drew ?_ | refine blk_alloc ?_ _)); exact BK200.out)) : gb214 ≠ gb200)); have n12_ := Aside0.mk ((by rw [hg]; exact Nat.ne_of_lt (blk_lt (g := gb202) (o := .cells #[.int .i64 ji9, .int .i64 0, .int .i64 (wrap64 ((ji9) + a3)), .int .i64 0, u203004] 41 (0, 0)) (by (with_reducible repeat (first | refine blk_drewN ?_ _ | refine blk_drew ?_ | refine blk_alloc ?_ _)); exact BK202.out)) : gb202 ≠ gb214)); have n13_ := Aside0.mk ((by rw [hg]; exact Nat.ne_of_gt (blk_lt (g := gb202) (o := .cells #[.int .i64 ji9, .int .i64 0, .int .i64 (wrap64 ((ji9) + a3)), .int .i64 0, u203004] 41 (0, 0)) (by (with_reducible repeat (first | refine blk_drewN ?_ _ | refine blk_drew ?_ | refine blk_alloc ?_ _)); exact BK202.out)) : gb214 ≠ gb202)); clear HO_203004; clear BK198; clear BK200; clear BK202; clear HB; have HO_203004 := n0_; have BK198 := n1_; have BK200 := n2_; have BK202 := n3_; have HB := n4_; have BK214 := n5_; have GW214 := n6_; have GE214 := n7_; have NB198_214 := n8_; have NB214_198 := n9_; have NB200_214 := n10_; have NB214_200 := n11_; have NB202_214 := n12_; have NB214_202 := n13_; clear n0_ n1_ n2_ n3_ n4_ n5_ n6_ n7_ n8_ n9_ n10_ n11_ n12_ n13_; clear hb hbox hg; have hnb33 := NB214_198.out; have hnc33 := NB198_214.out; have hnb34 := NB214_200.out; have hnc34 := NB200_214.out; have hnb35 := NB214_202.out; have hnc35 := NB202_214.out; have hcz36_0 : w32.cell? ⟨gb214, 0, none⟩ = some (.int .i64 0) := (blk_cell BK214.out 0).trans rfl; have hcz36_1 : w32.cell? ⟨gb214, 1, none⟩ = some (.int .i64 0) := (blk_cell BK214.out 1).trans rfl; have hcz36_2 : w32.cell? ⟨gb214, 2, none⟩ = some (.slice none 0 0) := (blk_cell BK214.out 2).trans rfl; have hfz36_0 := blk_frozen BK214.out 0; have hfz36_1 := blk_frozen BK214.out 1; have hfz36_2 := blk_frozen BK214.out 2))
               have n0_ : Aside0 (Kd.R Kd.string 9 (((w32.setCell ⟨gb214, 0, none⟩ (.int .i64 ((rd_T53 l1 x47_1).f0))).setCell ⟨gb214, 1, none⟩ (.int .i64 ((rd_T53 l1 x47_1).f1))).setCell ⟨gb214, 2, none⟩ (.slice A213_2 ((rd_T53 l1 x47_1).f2).length c213_2)) w.heap.size (fun _ => True) u203004 x203004_1) := ⟨by (with_reducible repeat (first | apply Kd.R_alloc | apply Kd.R_drewN | apply Kd.R_drew)); exact Kd.R_mono (Kd.R_far (p := ⟨gb214, 2, none⟩) (Kd.R_far (p := ⟨gb214, 1, none⟩) (Kd.R_far (p := ⟨gb214, 0, none⟩) (Kd.R_types HO_203004.out BK214.out (by decide)) (fun _ hk => hk.2) (.int .i64 ((rd_T53 l1 x47_1).f0))) (fun _ hk => hk.2) (.int .i64 ((rd_T53 l1 x47_1).f1))) (fun _ hk => hk.2) (.slice A213_2 ((rd_T53 l1 x47_1).f2).length c213_2)) (fun _ hk => trivial)⟩
               have n1_ : Aside0 ((((w32.setCell ⟨gb214, 0, none⟩ (.int .i64 ((rd_T53 l1 x47_1).f0))).setCell ⟨gb214, 1, none⟩ (.int .i64 ((rd_T53 l1 x47_1).f1))).setCell ⟨gb214, 2, none⟩ (.slice A213_2 ((rd_T53 l1 x47_1).f2).length c213_2)).heap[gb198]? = some (.cells #[.int .i64 0, .int .i64 0, .int .i64 0, .int .i64 0, .slice none 0 0] 41 (0, 0))) := ⟨by (with_reducible repeat (first | refine blk_drewN ?_ _ | refine blk_drew ?_ | refine blk_alloc ?_ _)); refine blk_far ?_ NB198_214.out _; (with_reducible repeat (first | refine blk_drewN ?_ _ | refine blk_drew ?_ | refine blk_alloc ?_ _)); refine blk_far ?_ NB198_214.out _; (with_reducible repeat (first | refine blk_drewN ?_ _ | refine blk_drew ?_ | refine blk_alloc ?_ _)); refine blk_far ?_ NB198_214.out _; (with_reducible repeat (first | refine blk_drewN ?_ _ | refine blk_drew ?_ | refine blk_alloc ?_ _)); exact BK198.out⟩
               have n2_ : Aside0 ((((w32.setCell ⟨gb214, 0, none⟩ (.int .i64 ((rd_T53 l1 x47_1).f0))).setCell ⟨gb214, 1, none⟩ (.int .i64 ((rd_T53 l1 x47_1).f1))).setCell ⟨gb214, 2, none⟩ (.slice A213_2 ((rd_T53 l1 x47_1).f2).length c213_2)).heap[gb200]? = some (.cells #[.int .i64 ((rd_T53 l1 (ji5)).f0), .int .i64 ((rd_T53 l1 (ji5)).f1), .slice A199_2 ((rd_T53 l1 ji5).f2).length c199_2] 53 (0, 0))) := ⟨by (with_reducible repeat (first | refine blk_drewN ?_ _ | refine blk_drew ?_ | refine blk_alloc ?_ _)); refine blk_far ?_ NB200_214.out _; (with_reducible repeat (first | refine blk_drewN ?_ _ | refine blk_drew ?_ | refine blk_alloc ?_ _)); refine blk_far ?_ NB200_214.out _; (with_reducible repeat (first | refine blk_drewN ?_ _ | refine blk_drew ?_ | refine blk_alloc ?_ _)); refine blk_far ?_ NB200_214.out _; (with_reducible repeat (first | refine blk_drewN ?_ _ | refine blk_drew ?_ | refine blk_alloc ?_ _)); exact BK200.out⟩
               have n3_ : Aside0 ((((w32.setCell ⟨gb214, 0, none⟩ (.int .i64 ((rd_T53 l1 x47_1).f0))).setCell ⟨gb214, 1, none⟩ (.int .i64 ((rd_T53 l1 x47_1).f1))).setCell ⟨gb214, 2, none⟩ (.slice A213_2 ((rd_T53 l1 x47_1).f2).length c213_2)).heap[gb202]? = some (.cells #[.int .i64 ji9, .int .i64 0, .int .i64 (wrap64 ((ji9) + a3)), .int .i64 0, u203004] 41 (0, 0))) := ⟨by (with_reducible repeat (first | refine blk_drewN ?_ _ | refine blk_drew ?_ | refine blk_alloc ?_ _)); refine blk_far ?_ NB202_214.out _; (with_reducible repeat (first | refine blk_drewN ?_ _ | refine blk_drew ?_ | refine blk_alloc ?_ _)); refine blk_far ?_ NB202_214.out _; (with_reducible repeat (first | refine blk_drewN ?_ _ | refine blk_drew ?_ | refine blk_alloc ?_ _)); refine blk_far ?_ NB202_214.out _; (with_reducible repeat (first | refine blk_drewN ?_ _ | refine blk_drew ?_ | refine blk_alloc ?_ _)); exact BK202.out⟩
               have n4_ : Aside0 ((((w32.setCell ⟨gb214, 0, none⟩ (.int .i64 ((rd_T53 l1 x47_1).f0))).setCell ⟨gb214, 1, none⟩ (.int .i64 ((rd_T53 l1 x47_1).f1))).setCell ⟨gb214, 2, none⟩ (.slice A213_2 ((rd_T53 l1 x47_1).f2).length c213_2)).heap[gb214]? = some (.cells #[.int .i64 ((rd_T53 l1 x47_1).f0), .int .i64 ((rd_T53 l1 x47_1).f1), .slice A213_2 ((rd_T53 l1 x47_1).f2).length c213_2] 53 (0, 0))) := ⟨by (with_reducible repeat (first | refine blk_drewN ?_ _ | refine blk_drew ?_ | refine blk_alloc ?_ _)); refine blk_put (cs := #[.int .i64 ((rd_T53 l1 x47_1).f0), .int .i64 ((rd_T53 l1 x47_1).f1), .slice none 0 0]) ?_ 2 _ rfl; (with_reducible repeat (first | refine blk_drewN ?_ _ | refine blk_drew ?_ | refine blk_alloc ?_ _)); refine blk_put (cs := #[.int .i64 ((rd_T53 l1 x47_1).f0), .int .i64 0, .slice none 0 0]) ?_ 1 _ rfl; (with_reducible repeat (first | refine blk_drewN ?_ _ | refine blk_drew ?_ | refine blk_alloc ?_ _)); refine blk_put (cs := #[.int .i64 0, .int .i64 0, .slice none 0 0]) ?_ 0 _ rfl; (with_reducible repeat (first | refine blk_drewN ?_ _ | refine blk_drew ?_ | refine blk_alloc ?_ _)); exact BK214.out⟩
               have n5_ : Aside0 (Below w.heap.size w (((w32.setCell ⟨gb214, 0, none⟩ (.int .i64 ((rd_T53 l1 x47_1).f0))).setCell ⟨gb214, 1, none⟩ (.int .i64 ((rd_T53 l1 x47_1).f1))).setCell ⟨gb214, 2, none⟩ (.slice A213_2 ((rd_T53 l1 x47_1).f2).length c213_2))) := ⟨by repeat (first | (with_reducible first | exact HB.out | apply below_alloc | apply pw_below_drewN | apply below_drew1 | refine below_set ?_ GE198.out | refine below_set ?_ GE200.out | refine below_set ?_ GE202.out | refine below_set ?_ GE214.out) | exact HB.out)⟩
               (try clear HO_203004)
               (try clear BK198)
               (try clear BK200)
               (try clear BK202)
               (try clear BK214)
               (try clear HB)
               generalize (((w32.setCell ⟨gb214, 0, none⟩ (.int .i64 ((rd_T53 l1 x47_1).f0))).setCell ⟨gb214, 1, none⟩ (.int .i64 ((rd_T53 l1 x47_1).f1))).setCell ⟨gb214, 2, none⟩ (.slice A213_2 ((rd_T53 l1 x47_1).f2).length c213_2)) = w37 at n0_ n1_ n2_ n3_ n4_ n5_ ⊢
               have HO_203004 := n0_
               have BK198 := n1_
               have BK200 := n2_
               have BK202 := n3_
               have BK214 := n4_
               have HB := n5_
               clear n0_ n1_ n2_ n3_ n4_ n5_
               have n0_ := Aside0.mk (Kd.R_drew HO_203004.out)
               have n1_ := Aside0.mk (blk_drew BK198.out)
               have n2_ := Aside0.mk (blk_drew BK200.out)
               have n3_ := Aside0.mk (blk_drew BK202.out)
               have n4_ := Aside0.mk (blk_drew BK214.out)
               have n5_ := Aside0.mk (below_drew1 HB.out)
               clear HO_203004
               clear BK198
               clear BK200
               clear BK202
               clear BK214
               clear HB
               have HO_203004 := n0_
               have BK198 := n1_
               have BK200 := n2_
               have BK202 := n3_
               have BK214 := n4_
               have HB := n5_
               clear n0_ n1_ n2_ n3_ n4_ n5_
               obtain ⟨i039, hi039, _, hsz39, _⟩ := info_parts info9
               obtain ⟨A39, hcut39, hA39, hC39⟩ := print_mid_of (P := Try.prog) Value.string (⟨#[]⟩ : ByteArray) 22 9 .i64 .i64 Try.underlying22 hi039 hsz39 A0 c0 l0 x13_1 ((rd_T53 l1 x47_1).f0) (of_decide_eq_true (by first | (with_reducible assumption) | assumption)) (by first | omega | exact of_decide_eq_true (by first | (with_reducible assumption) | assumption)) (of_decide_eq_true (by first | (with_reducible assumption) | assumption)) HC0.out
               have HR215 := Aside0.mk (Kd.C_of_reads (h1 := fun _ => rfl) (hA39 _ (Kd.reads_of_C HR0.out)))
               have HC215 := Aside0.mk hC39
               clear hA39 hC39 hi039 hsz39
               obtain ⟨i040, hi040, _, hsz40, _⟩ := info_parts info9
               obtain ⟨A40, hcut40, hA40, hC40⟩ := print_mid_of (P := Try.prog) Value.string (⟨#[]⟩ : ByteArray) 22 9 .i64 .i64 Try.underlying22 hi040 hsz40 A0 c0 l0 ((rd_T53 l1 x47_1).f0) (wrap64 (((rd_T53 l1 x47_1).f0) + ((rd_T53 l1 x47_1).f1))) (of_decide_eq_true (by first | (with_reducible assumption) | assumption)) (by first | omega | exact of_decide_eq_true (by first | (with_reducible assumption) | assumption)) (of_decide_eq_true (by first | (with_reducible assumption) | assumption)) HC0.out
               have HR219 := Aside0.mk (Kd.C_of_reads (h1 := fun _ => rfl) (hA40 _ (Kd.reads_of_C HR0.out)))
               have HC219 := Aside0.mk hC40
               clear hA40 hC40 hi040 hsz40
               refine start_ (n := 25) (S := fun w' => w'.cell? ⟨gb202, 0, none⟩ = some (.int .i64 ji9) ∧ w'.cell? ⟨gb202, 1, none⟩ = some (.int .i64 0) ∧ w'.cell? ⟨gb202, 2, none⟩ = some (.int .i64 (wrap64 ((ji9) + a3))) ∧ w'.cell? ⟨gb202, 3, none⟩ = some (.int .i64 0) ∧ w'.cell? ⟨gb202, 4, none⟩ = some (u203004) ∧ w'.cell? ⟨gb214, 0, none⟩ = some (.int .i64 ((rd_T53 l1 x47_1).f0)) ∧ w'.cell? ⟨gb214, 1, none⟩ = some (.int .i64 ((rd_T53 l1 x47_1).f1)) ∧ w'.cell? ⟨gb214, 2, none⟩ = some (.slice A213_2 ((rd_T53 l1 x47_1).f2).length c213_2)) (ds := [24]) #[false, false, false, false, false, false, false, false, false, false, false, false, false, false, false, false, false, false, false, false, false, false, false, false, false] (by kernel_rfl) rfl rfl ⟨(blk_cell BK202.out 0).trans rfl, (blk_cell BK202.out 1).trans rfl, (blk_cell BK202.out 2).trans rfl, (blk_cell BK202.out 3).trans rfl, (blk_cell BK202.out 4).trans rfl, (blk_cell BK214.out 0).trans rfl, (blk_cell BK214.out 1).trans rfl, (blk_cell BK214.out 2).trans rfl⟩ (fun hHeld => ?_); refine with_tabW hunk_group.tab9 hunk_group.bits9 (fun HT_ HW_ => ?_)
               generalize w37.drew = w38 at HO_203004 BK198 BK200 BK202 BK214 HB HR215 HR219 hHeld ⊢
               refine pure_ (i := 0) (N := some 51) (v := ?_) (a' := ?_) #[true, false, false, false, false, false, false, false, false, false, false, false, false, false, false, false, false, false, false, false, false, false, false, false, false] rfl rfl (any_of HT_.out (by kernel_rfl)) (fun _ _ _ h => h) (Or.inl ⟨by rfl, ?_⟩) ?_ ?_
               rotate_left
               ·intro w'
                go_simp
                with_reducible rfl
               rotate_left
               ·simp only [Act.put, List.setIfInBounds_toArray, List.set_cons_zero, List.set_cons_succ, i64_w, i32_w]
                rfl
               refine pure_ (i := 2) (N := some 53) (v := ?_) (a' := ?_) #[true, false, true, false, false, false, false, false, false, false, false, false, false, false, false, false, false, false, false, false, false, false, false, false, false] rfl rfl (any_of HT_.out (by kernel_rfl)) (fun _ _ _ h => h) (Or.inl ⟨by rfl, ?_⟩) ?_ ?_
               rotate_left
               ·intro w'
                go_simp
                with_reducible rfl
               rotate_left
               ·simp only [Act.put, List.setIfInBounds_toArray, List.set_cons_zero, List.set_cons_succ, i64_w, i32_w]
                rfl
               refine pure_ (i := 3) (N := some 54) (v := ?_) (a' := ?_) #[true, false, true, true, false, false, false, false, false, false, false, false, false, false, false, false, false, false, false, false, false, false, false, false, false] rfl rfl (any_of HT_.out (by kernel_rfl)) (fun _ _ _ h => h) (Or.inl ⟨by rfl, ?_⟩) ?_ ?_
               rotate_left
               ·intro w'
                go_simp
                with_reducible rfl
               rotate_left
               ·simp only [Act.put, List.setIfInBounds_toArray, List.set_cons_zero, List.set_cons_succ, i64_w, i32_w]
                rfl
               refine pure_ (i := 4) (N := some 55) (v := ?_) (a' := ?_) #[true, false, true, true, true, false, false, false, false, false, false, false, false, false, false, false, false, false, false, false, false, false, false, false, false] rfl rfl (any_of HT_.out (by kernel_rfl)) (fun _ _ _ h => h) (Or.inl ⟨by rfl, ?_⟩) ?_ ?_
               rotate_left
               ·intro w'
                go_simp
                with_reducible rfl
               rotate_left
               ·simp only [Act.put, List.setIfInBounds_toArray, List.set_cons_zero, List.set_cons_succ, i64_w, i32_w]
                rfl
               refine pure_ (i := 8) (N := some 59) (v := ?_) (a' := ?_) #[true, false, true, true, true, false, false, false, true, false, false, false, false, false, false, false, false, false, false, false, false, false, false, false, false] rfl rfl (any_of HT_.out (by kernel_rfl)) (fun _ _ _ h => h) (Or.inl ⟨by rfl, ?_⟩) ?_ ?_
               rotate_left
               ·intro w'
                go_simp
                with_reducible rfl
               rotate_left
               ·simp only [Act.put, List.setIfInBounds_toArray, List.set_cons_zero, List.set_cons_succ, i64_w, i32_w]
                rfl
               refine pure_ (i := 9) (N := some 60) (v := ?_) (a' := ?_) #[true, false, true, true, true, false, false, false, true, true, false, false, false, false, false, false, false, false, false, false, false, false, false, false, false] rfl rfl (any_of HT_.out (by kernel_rfl)) (fun _ _ _ h => h) (Or.inl ⟨by rfl, ?_⟩) ?_ ?_
               rotate_left
               ·intro w'
                go_simp
                with_reducible rfl
               rotate_left
               ·simp only [Act.put, List.setIfInBounds_toArray, List.set_cons_zero, List.set_cons_succ, i64_w, i32_w]
                rfl
               refine pure_ (i := 11) (N := some 62) (v := ?_) (a' := ?_) #[true, false, true, true, true, false, false, false, true, true, false, true, false, false, false, false, false, false, false, false, false, false, false, false, false] rfl rfl (any_of HT_.out (by kernel_rfl)) (fun _ _ _ h => h) (Or.inl ⟨by rfl, ?_⟩) ?_ ?_
               rotate_left
               ·intro w'
                go_simp
                with_reducible rfl
               rotate_left
               ·simp only [Act.put, List.setIfInBounds_toArray, List.set_cons_zero, List.set_cons_succ, i64_w, i32_w]
                rfl
               refine pure_ (i := 13) (N := some 64) (v := ?_) (a' := ?_) #[true, false, true, true, true, false, false, false, true, true, false, true, false, true, false, false, false, false, false, false, false, false, false, false, false] rfl rfl (any_of HT_.out (by kernel_rfl)) (fun _ _ _ h => h) (Or.inl ⟨by rfl, ?_⟩) ?_ ?_
               rotate_left
               ·intro w'
                go_simp
                with_reducible rfl
               rotate_left
               ·simp only [Act.put, List.setIfInBounds_toArray, List.set_cons_zero, List.set_cons_succ, i64_w, i32_w]
                rfl
               refine pure_ (i := 18) (N := some 69) (v := ?_) (a' := ?_) #[true, false, true, true, true, false, false, false, true, true, false, true, false, true, false, false, false, false, true, false, false, false, false, false, false] rfl rfl (any_of HT_.out (by kernel_rfl)) (fun _ _ _ h => h) (Or.inl ⟨by rfl, ?_⟩) ?_ ?_
               rotate_left
               ·intro w'
                go_simp
                with_reducible rfl
               rotate_left
               ·simp only [Act.put, List.setIfInBounds_toArray, List.set_cons_zero, List.set_cons_succ, i64_w, i32_w]
                rfl
               refine take_ (i := 1) (N := some 52) (v := ?_) (a' := ?_) #[true, true, true, true, true, false, false, false, true, true, false, true, false, true, false, false, false, false, true, false, false, false, false, false, false] rfl rfl (take_ofW HT_.out HW_.out (by kernel_rfl)) (fun _ _ _ h => h) (Or.inl ⟨by rfl, ?_⟩) hHeld ?_ ?_
               rotate_left
               ·rintro w' ⟨s0, s1, s2, s3, s4, s5, s6, s7⟩
                go_simp
                with_reducible rfl
               rotate_left
               ·simp only [Act.put, List.setIfInBounds_toArray, List.set_cons_zero, List.set_cons_succ, i64_w, i32_w]
                rfl
               refine take_ (i := 5) (N := some 56) (v := ?_) (a' := ?_) #[true, true, true, true, true, true, false, false, true, true, false, true, false, true, false, false, false, false, true, false, false, false, false, false, false] rfl rfl (take_ofW HT_.out HW_.out (by kernel_rfl)) (fun _ _ _ h => h) (Or.inl ⟨by rfl, ?_⟩) hHeld ?_ ?_
               rotate_left
               ·rintro w' ⟨s0, s1, s2, s3, s4, s5, s6, s7⟩
                go_simp
                with_reducible rfl
               rotate_left
               ·simp only [Act.put, List.setIfInBounds_toArray, List.set_cons_zero, List.set_cons_succ, i64_w, i32_w]
                rfl
               refine pure_ (i := 6) (N := some 57) (v := ?_) (a' := ?_) #[true, true, true, true, true, true, true, false, true, true, false, true, false, true, false, false, false, false, true, false, false, false, false, false, false] rfl rfl (any_of HT_.out (by kernel_rfl)) (fun _ _ _ h => h) (Or.inl ⟨by rfl, ?_⟩) ?_ ?_
               rotate_left
               ·intro w'
                go_simp
                with_reducible rfl
               rotate_left
               ·simp only [Act.put, List.setIfInBounds_toArray, List.set_cons_zero, List.set_cons_succ, i64_w, i32_w]
                rfl
               refine take_ (i := 10) (N := some 61) (v := ?_) (a' := ?_) #[true, true, true, true, true, true, true, false, true, true, true, true, false, true, false, false, false, false, true, false, false, false, false, false, false] rfl rfl (take_ofW HT_.out HW_.out (by kernel_rfl)) (fun _ _ _ h => h) (Or.inl ⟨by rfl, ?_⟩) hHeld ?_ ?_
               rotate_left
               ·rintro w' ⟨s0, s1, s2, s3, s4, s5, s6, s7⟩
                go_simp
                with_reducible rfl
               rotate_left
               ·simp only [Act.put, List.setIfInBounds_toArray, List.set_cons_zero, List.set_cons_succ, i64_w, i32_w]
                rfl
               refine take_ (i := 12) (N := some 63) (v := ?_) (a' := ?_) #[true, true, true, true, true, true, true, false, true, true, true, true, true, true, false, false, false, false, true, false, false, false, false, false, false] rfl rfl (take_ofW HT_.out HW_.out (by kernel_rfl)) (fun _ _ _ h => h) (Or.inl ⟨by rfl, ?_⟩) hHeld ?_ ?_
               rotate_left
               ·rintro w' ⟨s0, s1, s2, s3, s4, s5, s6, s7⟩
                go_simp
                with_reducible rfl
               rotate_left
               ·simp only [Act.put, List.setIfInBounds_toArray, List.set_cons_zero, List.set_cons_succ, i64_w, i32_w]
                rfl
               refine take_ (i := 14) (N := some 65) (v := ?_) (a' := ?_) #[true, true, true, true, true, true, true, false, true, true, true, true, true, true, true, false, false, false, true, false, false, false, false, false, false] rfl rfl (take_ofW HT_.out HW_.out (by kernel_rfl)) (fun _ _ _ h => h) (Or.inl ⟨by rfl, ?_⟩) hHeld ?_ ?_
               rotate_left
               ·rintro w' ⟨s0, s1, s2, s3, s4, s5, s6, s7⟩
                go_simp
                with_reducible rfl
               rotate_left
               ·simp only [Act.put, List.setIfInBounds_toArray, List.set_cons_zero, List.set_cons_succ, i64_w, i32_w]
                rfl
               refine pure_ (i := 15) (N := some 66) (v := ?_) (a' := ?_) #[true, true, true, true, true, true, true, false, true, true, true, true, true, true, true, true, false, false, true, false, false, false, false, false, false] rfl rfl (any_of HT_.out (by kernel_rfl)) (fun _ _ _ h => h) (Or.inl ⟨by rfl, ?_⟩) ?_ ?_
               rotate_left
               ·intro w'
                go_simp
                with_reducible rfl
               rotate_left
               ·simp only [Act.put, List.setIfInBounds_toArray, List.set_cons_zero, List.set_cons_succ, i64_w, i32_w]
                rfl
               refine pure_ (i := 16) (N := some 67) (v := ?_) (a' := ?_) #[true, true, true, true, true, true, true, false, true, true, true, true, true, true, true, true, true, false, true, false, false, false, false, false, false] rfl rfl (any_of HT_.out (by kernel_rfl)) (fun _ _ _ h => h) (Or.inl ⟨by rfl, ?_⟩) ?_ ?_
               rotate_left
               ·intro w'
                go_simp
                with_reducible rfl
               rotate_left
               ·simp only [Act.put, List.setIfInBounds_toArray, List.set_cons_zero, List.set_cons_succ, i64_w, i32_w]
                rfl
               refine take_ (i := 19) (N := some 70) (v := ?_) (a' := ?_) #[true, true, true, true, true, true, true, false, true, true, true, true, true, true, true, true, true, false, true, true, false, false, false, false, false] rfl rfl (take_ofW HT_.out HW_.out (by kernel_rfl)) (fun _ _ _ h => h) (Or.inl ⟨by rfl, ?_⟩) hHeld ?_ ?_
               rotate_left
               ·rintro w' ⟨s0, s1, s2, s3, s4, s5, s6, s7⟩
                go_simp
                with_reducible rfl
               rotate_left
               ·simp only [Act.put, List.setIfInBounds_toArray, List.set_cons_zero, List.set_cons_succ, i64_w, i32_w]
                rfl
               refine one_ (i := 7) (N := some 58) #[true, true, true, true, true, true, true, true, true, true, true, true, true, true, true, true, true, false, true, true, false, false, false, false, false] rfl rfl (one_of HT_.out (by kernel_rfl)) (by decide) (fun K hK => ?_)
               refine goes_ Try.func40 (by kernel_rfl) rfl #[.int .u8 32, .slice A39 ((l0.take (((rd_T53 l1 x47_1).f0) : Int).toNat).drop (x13_1 : Int).toNat).length (c0 - x13_1.toNat)] (by rfl) rfl rfl (by (try simp only [List.map_toArray, List.map_cons, List.map_nil]); first | done | (rw [show ((l0.take (((rd_T53 l1 x47_1).f0) : Int).toNat).drop (x13_1 : Int).toNat).length = (((rd_T53 l1 x47_1).f0).toNat - x13_1.toNat) from (by rw [List.length_drop, List.length_take]; have h_ : (((rd_T53 l1 x47_1).f0) : Int) ≤ (l0.length : Int) := of_decide_eq_true (by first | (with_reducible assumption) | assumption); omega)] <;> rfl) | rfl | (simp only [List.length_drop, List.length_take]; rfl)) ?_
               with_reducible refine (hunk_signed.calls k1 32 _ _ ((l0.take (((rd_T53 l1 x47_1).f0) : Int).toNat).drop (x13_1 : Int).toNat) t216 _ ?side1 ?side2 A25.out).mono ?_
               (case side1 => repeat (first | exact (Kd.C_below HR215.out HB.out) | (with_reducible refine Kd.C_alloc ?_ _) | (with_reducible refine Kd.C_drewN ?_ _) | (with_reducible refine Kd.C_drew ?_)))
               (case side2 => exact HC215.out)
               rintro e w41 ⟨v217, rfl, ho0, hb⟩
               refine ⟨_, rfl, ?_⟩
               have n0_ := Aside0.mk (Kd.R_elder' (by (with_reducible repeat (first | apply Kd.R_alloc | apply Kd.R_drewN | apply Kd.R_drew)); exact HO_203004.out) (Kd.R_base ho0) hb)
               have n1_ := Aside0.mk (Kd.R_lower (Kd.R_new' ho0 (Kd.R_lt (by (with_reducible repeat (first | apply Kd.R_alloc | apply Kd.R_drewN | apply Kd.R_drew)); exact HO_203004.out))) (below_size (by repeat (first | (with_reducible first | exact HB.out | apply below_alloc | apply pw_below_drewN | apply below_drew1 | refine below_set ?_ GE198.out | refine below_set ?_ GE200.out | refine below_set ?_ GE202.out | refine below_set ?_ GE214.out) | exact HB.out))))
               have n2_ := Aside0.mk (blk_below (g := gb198) (o := .cells #[.int .i64 0, .int .i64 0, .int .i64 0, .int .i64 0, .slice none 0 0] 41 (0, 0)) (by (with_reducible repeat (first | refine blk_drewN ?_ _ | refine blk_drew ?_ | refine blk_alloc ?_ _)); exact BK198.out) hb)
               have n3_ := Aside0.mk (blk_below (g := gb200) (o := .cells #[.int .i64 ((rd_T53 l1 (ji5)).f0), .int .i64 ((rd_T53 l1 (ji5)).f1), .slice A199_2 ((rd_T53 l1 ji5).f2).length c199_2] 53 (0, 0)) (by (with_reducible repeat (first | refine blk_drewN ?_ _ | refine blk_drew ?_ | refine blk_alloc ?_ _)); exact BK200.out) hb)
               have n4_ := Aside0.mk (blk_below (g := gb202) (o := .cells #[.int .i64 ji9, .int .i64 0, .int .i64 (wrap64 ((ji9) + a3)), .int .i64 0, u203004] 41 (0, 0)) (by (with_reducible repeat (first | refine blk_drewN ?_ _ | refine blk_drew ?_ | refine blk_alloc ?_ _)); exact BK202.out) hb)
               have n5_ := Aside0.mk (blk_below (g := gb214) (o := .cells #[.int .i64 ((rd_T53 l1 x47_1).f0), .int .i64 ((rd_T53 l1 x47_1).f1), .slice A213_2 ((rd_T53 l1 x47_1).f2).length c213_2] 53 (0, 0)) (by (with_reducible repeat (first | refine blk_drewN ?_ _ | refine blk_drew ?_ | refine blk_alloc ?_ _)); exact BK214.out) hb)
               have n6_ := Aside0.mk (below_step (by repeat (first | (with_reducible first | exact HB.out | apply below_alloc | apply pw_below_drewN | apply below_drew1 | refine below_set ?_ GE198.out | refine below_set ?_ GE200.out | refine below_set ?_ GE202.out | refine below_set ?_ GE214.out) | exact HB.out)) hb)
               clear HO_203004
               clear BK198
               clear BK200
               clear BK202
               clear BK214
               clear HB
               have HO_203004 := n0_
               have HO218 := n1_
               have BK198 := n2_
               have BK200 := n3_
               have BK202 := n4_
               have BK214 := n5_
               have HB := n6_
               clear n0_ n1_ n2_ n3_ n4_ n5_ n6_
               (try clear hb)
               (try clear hb2)
               (try clear hk)
               (try clear hi)
               (try clear ho0)
               refine hK.out _ _ ⟨(blk_cell BK202.out 0).trans rfl, (blk_cell BK202.out 1).trans rfl, (blk_cell BK202.out 2).trans rfl, (blk_cell BK202.out 3).trans rfl, (blk_cell BK202.out 4).trans rfl, (blk_cell BK214.out 0).trans rfl, (blk_cell BK214.out 1).trans rfl, (blk_cell BK214.out 2).trans rfl⟩ (fun hHeld => ?_)
               clear hK K
               refine norm_ (a' := ?_) ?_ ?_
               rotate_left
               ·show Act.put _ (some 58) _ = _
                simp only [Act.put, List.setIfInBounds_toArray, List.set_cons_zero, List.set_cons_succ, i64_w, i32_w]
                rfl
               refine one_ (i := 17) (N := some 68) #[true, true, true, true, true, true, true, true, true, true, true, true, true, true, true, true, true, true, true, true, false, false, false, false, false] rfl rfl (one_of HT_.out (by kernel_rfl)) (by decide) (fun K hK => ?_)
               refine goes_ Try.func40 (by kernel_rfl) rfl #[.int .u8 45, .slice A40 ((l0.take ((wrap64 (((rd_T53 l1 x47_1).f0) + ((rd_T53 l1 x47_1).f1))) : Int).toNat).drop (((rd_T53 l1 x47_1).f0) : Int).toNat).length (c0 - ((rd_T53 l1 x47_1).f0).toNat)] (by rfl) rfl rfl (by (try simp only [List.map_toArray, List.map_cons, List.map_nil]); first | done | (rw [show ((l0.take ((wrap64 (((rd_T53 l1 x47_1).f0) + ((rd_T53 l1 x47_1).f1))) : Int).toNat).drop (((rd_T53 l1 x47_1).f0) : Int).toNat).length = ((wrap64 (((rd_T53 l1 x47_1).f0) + ((rd_T53 l1 x47_1).f1))).toNat - ((rd_T53 l1 x47_1).f0).toNat) from (by rw [List.length_drop, List.length_take]; have h_ : ((wrap64 (((rd_T53 l1 x47_1).f0) + ((rd_T53 l1 x47_1).f1))) : Int) ≤ (l0.length : Int) := of_decide_eq_true (by first | (with_reducible assumption) | assumption); omega)] <;> rfl) | rfl | (simp only [List.length_drop, List.length_take]; rfl)) ?_
               with_reducible refine (hunk_signed.calls k1 45 _ _ ((l0.take ((wrap64 (((rd_T53 l1 x47_1).f0) + ((rd_T53 l1 x47_1).f1))) : Int).toNat).drop (((rd_T53 l1 x47_1).f0) : Int).toNat) t220 _ ?side1 ?side2 A29.out).mono ?_
               (case side1 => repeat (first | exact (Kd.C_below HR219.out HB.out) | (with_reducible refine Kd.C_alloc ?_ _) | (with_reducible refine Kd.C_drewN ?_ _) | (with_reducible refine Kd.C_drew ?_)))
               (case side2 => exact HC219.out)
               rintro e w42 ⟨v221, rfl, ho0, hb⟩
               refine ⟨_, rfl, ?_⟩
               have n0_ := Aside0.mk (Kd.R_elder' (by (with_reducible repeat (first | apply Kd.R_alloc | apply Kd.R_drewN | apply Kd.R_drew)); exact HO_203004.out) (Kd.R_base ho0) hb)
               have n1_ := Aside0.mk (Kd.R_elder' (by (with_reducible repeat (first | apply Kd.R_alloc | apply Kd.R_drewN | apply Kd.R_drew)); exact HO218.out) (Kd.R_base ho0) hb)
               have n2_ := Aside0.mk (Kd.R_lower (Kd.R_new' (Kd.R_new' ho0 (Kd.R_lt (by (with_reducible repeat (first | apply Kd.R_alloc | apply Kd.R_drewN | apply Kd.R_drew)); exact HO_203004.out))) (Kd.R_lt (by (with_reducible repeat (first | apply Kd.R_alloc | apply Kd.R_drewN | apply Kd.R_drew)); exact HO218.out))) (below_size (by repeat (first | (with_reducible first | exact HB.out | apply below_alloc | apply pw_below_drewN | apply below_drew1 | refine below_set ?_ GE198.out | refine below_set ?_ GE200.out | refine below_set ?_ GE202.out | refine below_set ?_ GE214.out) | exact HB.out))))
               have n3_ := Aside0.mk (blk_below (g := gb198) (o := .cells #[.int .i64 0, .int .i64 0, .int .i64 0, .int .i64 0, .slice none 0 0] 41 (0, 0)) (by (with_reducible repeat (first | refine blk_drewN ?_ _ | refine blk_drew ?_ | refine blk_alloc ?_ _)); exact BK198.out) hb)
               have n4_ := Aside0.mk (blk_below (g := gb200) (o := .cells #[.int .i64 ((rd_T53 l1 (ji5)).f0), .int .i64 ((rd_T53 l1 (ji5)).f1), .slice A199_2 ((rd_T53 l1 ji5).f2).length c199_2] 53 (0, 0)) (by (with_reducible repeat (first | refine blk_drewN ?_ _ | refine blk_drew ?_ | refine blk_alloc ?_ _)); exact BK200.out) hb)
               have n5_ := Aside0.mk (blk_below (g := gb202) (o := .cells #[.int .i64 ji9, .int .i64 0, .int .i64 (wrap64 ((ji9) + a3)), .int .i64 0, u203004] 41 (0, 0)) (by (with_reducible repeat (first | refine blk_drewN ?_ _ | refine blk_drew ?_ | refine blk_alloc ?_ _)); exact BK202.out) hb)
               have n6_ := Aside0.mk (blk_below (g := gb214) (o := .cells #[.int .i64 ((rd_T53 l1 x47_1).f0), .int .i64 ((rd_T53 l1 x47_1).f1), .slice A213_2 ((rd_T53 l1 x47_1).f2).length c213_2] 53 (0, 0)) (by (with_reducible repeat (first | refine blk_drewN ?_ _ | refine blk_drew ?_ | refine blk_alloc ?_ _)); exact BK214.out) hb)
               have n7_ := Aside0.mk (below_step (by repeat (first | (with_reducible first | exact HB.out | apply below_alloc | apply pw_below_drewN | apply below_drew1 | refine below_set ?_ GE198.out | refine below_set ?_ GE200.out | refine below_set ?_ GE202.out | refine below_set ?_ GE214.out) | exact HB.out)) hb)
               clear HO_203004
               clear HO218
               clear BK198
               clear BK200
               clear BK202
               clear BK214
               clear HB
               have HO_203004 := n0_
               have HO218 := n1_
               have HO222 := n2_
               have BK198 := n3_
               have BK200 := n4_
               have BK202 := n5_
               have BK214 := n6_
               have HB := n7_
               clear n0_ n1_ n2_ n3_ n4_ n5_ n6_ n7_
               (try clear hb)
               (try clear hb2)
               (try clear hk)
               (try clear hi)
               (try clear ho0)
               refine hK.out _ _ ⟨(blk_cell BK202.out 0).trans rfl, (blk_cell BK202.out 1).trans rfl, (blk_cell BK202.out 2).trans rfl, (blk_cell BK202.out 3).trans rfl, (blk_cell BK202.out 4).trans rfl, (blk_cell BK214.out 0).trans rfl, (blk_cell BK214.out 1).trans rfl, (blk_cell BK214.out 2).trans rfl⟩ (fun hHeld => ?_)
               clear hK K
               refine norm_ (a' := ?_) ?_ ?_
               rotate_left
               ·show Act.put _ (some 68) _ = _
                simp only [Act.put, List.setIfInBounds_toArray, List.set_cons_zero, List.set_cons_succ, i64_w, i32_w]
                rfl
               refine one_ (i := 20) (N := some 71) #[true, true, true, true, true, true, true, true, true, true, true, true, true, true, true, true, true, true, true, true, true, false, false, false, false] rfl rfl (one_of HT_.out (by kernel_rfl)) (by decide) (fun K hK => ?_)
               refine goes_ Try.func40 (by kernel_rfl) rfl #[.int .u8 43, .slice A213_2 ((rd_T53 l1 x47_1).f2).length c213_2] (by rfl) rfl rfl (by (try simp only [List.map_toArray, List.map_cons, List.map_nil]); first | done | rfl | (simp only [List.length_drop, List.length_take]; rfl)) ?_
               with_reducible refine (hunk_signed.calls k1 43 _ _ ((rd_T53 l1 x47_1).f2) t223 _ ?side1 ?side2 A30.out).mono ?_
               (case side1 => repeat (first | exact (Kd.C_below HR213_2.out HB.out) | (with_reducible refine Kd.C_alloc ?_ _) | (with_reducible refine Kd.C_drewN ?_ _) | (with_reducible refine Kd.C_drew ?_)))
               (case side2 => exact HC213_2.out)
               rintro e w43 ⟨v224, rfl, ho0, hb⟩
               refine ⟨_, rfl, ?_⟩
               have n0_ := Aside0.mk (Kd.R_elder' (by (with_reducible repeat (first | apply Kd.R_alloc | apply Kd.R_drewN | apply Kd.R_drew)); exact HO_203004.out) (Kd.R_base ho0) hb)
               have n1_ := Aside0.mk (Kd.R_elder' (by (with_reducible repeat (first | apply Kd.R_alloc | apply Kd.R_drewN | apply Kd.R_drew)); exact HO218.out) (Kd.R_base ho0) hb)
               have n2_ := Aside0.mk (Kd.R_elder' (by (with_reducible repeat (first | apply Kd.R_alloc | apply Kd.R_drewN | apply Kd.R_drew)); exact HO222.out) (Kd.R_base ho0) hb)
               have n3_ := Aside0.mk (Kd.R_lower (Kd.R_new' (Kd.R_new' (Kd.R_new' ho0 (Kd.R_lt (by (with_reducible repeat (first | apply Kd.R_alloc | apply Kd.R_drewN | apply Kd.R_drew)); exact HO_203004.out))) (Kd.R_lt (by (with_reducible repeat (first | apply Kd.R_alloc | apply Kd.R_drewN | apply Kd.R_drew)); exact HO218.out))) (Kd.R_lt (by (with_reducible repeat (first | apply Kd.R_alloc | apply Kd.R_drewN | apply Kd.R_drew)); exact HO222.out))) (below_size (by repeat (first | (with_reducible first | exact HB.out | apply below_alloc | apply pw_below_drewN | apply below_drew1 | refine below_set ?_ GE198.out | refine below_set ?_ GE200.out | refine below_set ?_ GE202.out | refine below_set ?_ GE214.out) | exact HB.out))))
               have n4_ := Aside0.mk (blk_below (g := gb198) (o := .cells #[.int .i64 0, .int .i64 0, .int .i64 0, .int .i64 0, .slice none 0 0] 41 (0, 0)) (by (with_reducible repeat (first | refine blk_drewN ?_ _ | refine blk_drew ?_ | refine blk_alloc ?_ _)); exact BK198.out) hb)
               have n5_ := Aside0.mk (blk_below (g := gb200) (o := .cells #[.int .i64 ((rd_T53 l1 (ji5)).f0), .int .i64 ((rd_T53 l1 (ji5)).f1), .slice A199_2 ((rd_T53 l1 ji5).f2).length c199_2] 53 (0, 0)) (by (with_reducible repeat (first | refine blk_drewN ?_ _ | refine blk_drew ?_ | refine blk_alloc ?_ _)); exact BK200.out) hb)
               have n6_ := Aside0.mk (blk_below (g := gb202) (o := .cells #[.int .i64 ji9, .int .i64 0, .int .i64 (wrap64 ((ji9) + a3)), .int .i64 0, u203004] 41 (0, 0)) (by (with_reducible repeat (first | refine blk_drewN ?_ _ | refine blk_drew ?_ | refine blk_alloc ?_ _)); exact BK202.out) hb)
               have n7_ := Aside0.mk (blk_below (g := gb214) (o := .cells #[.int .i64 ((rd_T53 l1 x47_1).f0), .int .i64 ((rd_T53 l1 x47_1).f1), .slice A213_2 ((rd_T53 l1 x47_1).f2).length c213_2] 53 (0, 0)) (by (with_reducible repeat (first | refine blk_drewN ?_ _ | refine blk_drew ?_ | refine blk_alloc ?_ _)); exact BK214.out) hb)
               have n8_ := Aside0.mk (below_step (by repeat (first | (with_reducible first | exact HB.out | apply below_alloc | apply pw_below_drewN | apply below_drew1 | refine below_set ?_ GE198.out | refine below_set ?_ GE200.out | refine below_set ?_ GE202.out | refine below_set ?_ GE214.out) | exact HB.out)) hb)
               clear HO_203004
               clear HO218
               clear HO222
               clear BK198
               clear BK200
               clear BK202
               clear BK214
               clear HB
               have HO_203004 := n0_
               have HO218 := n1_
               have HO222 := n2_
               have HO225 := n3_
               have BK198 := n4_
               have BK200 := n5_
               have BK202 := n6_
               have BK214 := n7_
               have HB := n8_
               clear n0_ n1_ n2_ n3_ n4_ n5_ n6_ n7_ n8_
               (try clear hb)
               (try clear hb2)
               (try clear hk)
               (try clear hi)
               (try clear ho0)
               obtain ⟨Ao44, co44, eo44⟩ := Kd.R_slice HO_203004.out
               (first | subst eo44 | (injection eo44 with f1_ f2_ f3_; have f4_ := f1_.symm; have f5_ := f3_.symm; clear f1_ f2_ f3_; subst f4_; subst f5_))
               obtain ⟨Ao45, co45, eo45⟩ := Kd.R_slice HO218.out
               (first | subst eo45 | (injection eo45 with f1_ f2_ f3_; have f4_ := f1_.symm; have f5_ := f3_.symm; clear f1_ f2_ f3_; subst f4_; subst f5_))
               obtain ⟨Ao46, co46, eo46⟩ := Kd.R_slice HO222.out
               (first | subst eo46 | (injection eo46 with f1_ f2_ f3_; have f4_ := f1_.symm; have f5_ := f3_.symm; clear f1_ f2_ f3_; subst f4_; subst f5_))
               obtain ⟨Ao47, co47, eo47⟩ := Kd.R_slice HO225.out
               (first | subst eo47 | (injection eo47 with f1_ f2_ f3_; have f4_ := f1_.symm; have f5_ := f3_.symm; clear f1_ f2_ f3_; subst f4_; subst f5_))
               refine hK.out _ _ ⟨(blk_cell BK202.out 0).trans rfl, (blk_cell BK202.out 1).trans rfl, (blk_cell BK202.out 2).trans rfl, (blk_cell BK202.out 3).trans rfl, (blk_cell BK202.out 4).trans rfl, (blk_cell BK214.out 0).trans rfl, (blk_cell BK214.out 1).trans rfl, (blk_cell BK214.out 2).trans rfl⟩ (fun hHeld => ?_)
               clear hK K
               refine norm_ (a' := ?_) ?_ ?_
               rotate_left
               ·show Act.put _ (some 71) _ = _
                simp only [Act.put, List.setIfInBounds_toArray, List.set_cons_zero, List.set_cons_succ, i64_w, i32_w]
                rfl
               refine one_ (i := 21) (N := some 72) #[true, true, true, true, true, true, true, true, true, true, true, true, true, true, true, true, true, true, true, true, true, true, false, false, false] rfl rfl (one_of HT_.out (by kernel_rfl)) (by decide) (fun K hK => ?_)
               refine Kd.N_lit_step (Kd.slice 9 Kd.string) _ 22 ?hg (N' := 72) ?hd (xs := ([x203004_1, t216, t220, t223] : List (List ByteArray))) (inner := [.slice Ao44 x203004_1.length co44, .slice Ao45 t216.length co45, .slice Ao46 t220.length co46, .slice Ao47 t223.length co47]) (ok := (fun k_ => k_ ≠ gb198 ∧ k_ ≠ gb200 ∧ k_ ≠ gb202 ∧ k_ ≠ gb214)) (okp := (fun k_ => k_ ≠ gb198 ∧ k_ ≠ gb200 ∧ k_ ≠ gb202 ∧ k_ ≠ gb214)) ?hr ?hp (fun _ hk => hk) ((show ∀ k_, w43.heap.size ≤ k_ → (fun k_ => k_ ≠ gb198 ∧ k_ ≠ gb200 ∧ k_ ≠ gb202 ∧ k_ ≠ gb214) k_ from fun k_ hk => ⟨Kd.freshB (g := gb198) (o := .cells #[.int .i64 0, .int .i64 0, .int .i64 0, .int .i64 0, .slice none 0 0] 41 (0, 0)) (by (with_reducible repeat (first | refine blk_drewN ?_ _ | refine blk_drew ?_ | refine blk_alloc ?_ _)); exact BK198.out) k_ hk, Kd.freshB (g := gb200) (o := .cells #[.int .i64 ((rd_T53 l1 (ji5)).f0), .int .i64 ((rd_T53 l1 (ji5)).f1), .slice A199_2 ((rd_T53 l1 ji5).f2).length c199_2] 53 (0, 0)) (by (with_reducible repeat (first | refine blk_drewN ?_ _ | refine blk_drew ?_ | refine blk_alloc ?_ _)); exact BK200.out) k_ hk, Kd.freshB (g := gb202) (o := .cells #[.int .i64 ji9, .int .i64 0, .int .i64 (wrap64 ((ji9) + a3)), .int .i64 0, .slice Ao44 x203004_1.length co44] 41 (0, 0)) (by (with_reducible repeat (first | refine blk_drewN ?_ _ | refine blk_drew ?_ | refine blk_alloc ?_ _)); exact BK202.out) k_ hk, Kd.freshB (g := gb214) (o := .cells #[.int .i64 ((rd_T53 l1 x47_1).f0), .int .i64 ((rd_T53 l1 x47_1).f1), .slice A213_2 ((rd_T53 l1 x47_1).f2).length c213_2] 53 (0, 0)) (by (with_reducible repeat (first | refine blk_drewN ?_ _ | refine blk_drew ?_ | refine blk_alloc ?_ _)); exact BK214.out) k_ hk⟩) _ (Nat.le_refl _)) (Below.refl _ _) (Nat.le_refl _) (by simp) ?_; (case hd => rfl); (case hg => rfl); (case hr => first | (go_simp; done) | (go_simp; rfl)); (case hp => exact (Reps.one (show Kd.FK (Kd.slice 9 Kd.string) _ _ x203004_1 [.slice Ao44 x203004_1.length co44] from (Kd.FK_slice_mk (Kd.R_reads' (Kd.R_mono (ok' := (fun k_ => k_ ≠ gb198 ∧ k_ ≠ gb200 ∧ k_ ≠ gb202 ∧ k_ ≠ gb214)) (Kd.R_types (Kd.R_types (Kd.R_types (Kd.R_types (HO_203004.out) BK198.out (by decide)) BK200.out (by decide)) BK202.out (by decide)) BK214.out (by decide)) (fun k_ hk => ⟨hk.1.1.1.2, ⟨hk.1.1.2, ⟨hk.1.2, hk.2⟩⟩⟩))).2.1 (Kd.R_F (Kd.R_mono (ok' := (fun k_ => k_ ≠ gb198 ∧ k_ ≠ gb200 ∧ k_ ≠ gb202 ∧ k_ ≠ gb214)) (Kd.R_types (Kd.R_types (Kd.R_types (Kd.R_types (HO_203004.out) BK198.out (by decide)) BK200.out (by decide)) BK202.out (by decide)) BK214.out (by decide)) (fun k_ hk => ⟨hk.1.1.1.2, ⟨hk.1.1.2, ⟨hk.1.2, hk.2⟩⟩⟩))))) (Reps.one (show Kd.FK (Kd.slice 9 Kd.string) _ _ t216 [.slice Ao45 t216.length co45] from (Kd.FK_slice_mk (Kd.R_reads' (Kd.R_mono (ok' := (fun k_ => k_ ≠ gb198 ∧ k_ ≠ gb200 ∧ k_ ≠ gb202 ∧ k_ ≠ gb214)) (Kd.R_types (Kd.R_types (Kd.R_types (Kd.R_types (HO218.out) BK198.out (by decide)) BK200.out (by decide)) BK202.out (by decide)) BK214.out (by decide)) (fun k_ hk => ⟨hk.1.1.1.2, ⟨hk.1.1.2, ⟨hk.1.2, hk.2⟩⟩⟩))).2.1 (Kd.R_F (Kd.R_mono (ok' := (fun k_ => k_ ≠ gb198 ∧ k_ ≠ gb200 ∧ k_ ≠ gb202 ∧ k_ ≠ gb214)) (Kd.R_types (Kd.R_types (Kd.R_types (Kd.R_types (HO218.out) BK198.out (by decide)) BK200.out (by decide)) BK202.out (by decide)) BK214.out (by decide)) (fun k_ hk => ⟨hk.1.1.1.2, ⟨hk.1.1.2, ⟨hk.1.2, hk.2⟩⟩⟩))))) (Reps.one (show Kd.FK (Kd.slice 9 Kd.string) _ _ t220 [.slice Ao46 t220.length co46] from (Kd.FK_slice_mk (Kd.R_reads' (Kd.R_mono (ok' := (fun k_ => k_ ≠ gb198 ∧ k_ ≠ gb200 ∧ k_ ≠ gb202 ∧ k_ ≠ gb214)) (Kd.R_types (Kd.R_types (Kd.R_types (Kd.R_types (HO222.out) BK198.out (by decide)) BK200.out (by decide)) BK202.out (by decide)) BK214.out (by decide)) (fun k_ hk => ⟨hk.1.1.1.2, ⟨hk.1.1.2, ⟨hk.1.2, hk.2⟩⟩⟩))).2.1 (Kd.R_F (Kd.R_mono (ok' := (fun k_ => k_ ≠ gb198 ∧ k_ ≠ gb200 ∧ k_ ≠ gb202 ∧ k_ ≠ gb214)) (Kd.R_types (Kd.R_types (Kd.R_types (Kd.R_types (HO222.out) BK198.out (by decide)) BK200.out (by decide)) BK202.out (by decide)) BK214.out (by decide)) (fun k_ hk => ⟨hk.1.1.1.2, ⟨hk.1.1.2, ⟨hk.1.2, hk.2⟩⟩⟩))))) (Reps.one (show Kd.FK (Kd.slice 9 Kd.string) _ _ t223 [.slice Ao47 t223.length co47] from (Kd.FK_slice_mk (Kd.R_reads' (Kd.R_mono (ok' := (fun k_ => k_ ≠ gb198 ∧ k_ ≠ gb200 ∧ k_ ≠ gb202 ∧ k_ ≠ gb214)) (Kd.R_types (Kd.R_types (Kd.R_types (Kd.R_types (HO225.out) BK198.out (by decide)) BK200.out (by decide)) BK202.out (by decide)) BK214.out (by decide)) (fun k_ hk => ⟨hk.1.1.1.2, ⟨hk.1.1.2, ⟨hk.1.2, hk.2⟩⟩⟩))).2.1 (Kd.R_F (Kd.R_mono (ok' := (fun k_ => k_ ≠ gb198 ∧ k_ ≠ gb200 ∧ k_ ≠ gb202 ∧ k_ ≠ gb214)) (Kd.R_types (Kd.R_types (Kd.R_types (Kd.R_types (HO225.out) BK198.out (by decide)) BK200.out (by decide)) BK202.out (by decide)) BK214.out (by decide)) (fun k_ hk => ⟨hk.1.1.1.2, ⟨hk.1.1.2, ⟨hk.1.2, hk.2⟩⟩⟩))))) (Reps.none _ _))))))
               intro v227 w48 ho49 hb hg_ hnew_
               clear hg_ hnew_
               (first | rw [← Ny226.out] at ho49 | (simp only [Int.reduceToNat] at ho49; rw [← Ny226.out] at ho49))
               have n0_ := Aside0.mk (Kd.N_lower ho49 (below_size (by repeat (first | (with_reducible first | exact HB.out | apply below_alloc | apply pw_below_drewN | apply below_drew1 | refine below_set ?_ GE198.out | refine below_set ?_ GE200.out | refine below_set ?_ GE202.out | refine below_set ?_ GE214.out) | exact HB.out))))
               have n1_ := Aside0.mk (blk_below (g := gb198) (o := .cells #[.int .i64 0, .int .i64 0, .int .i64 0, .int .i64 0, .slice none 0 0] 41 (0, 0)) (by (with_reducible repeat (first | refine blk_drewN ?_ _ | refine blk_drew ?_ | refine blk_alloc ?_ _)); exact BK198.out) hb)
               have n2_ := Aside0.mk (blk_below (g := gb200) (o := .cells #[.int .i64 ((rd_T53 l1 (ji5)).f0), .int .i64 ((rd_T53 l1 (ji5)).f1), .slice A199_2 ((rd_T53 l1 ji5).f2).length c199_2] 53 (0, 0)) (by (with_reducible repeat (first | refine blk_drewN ?_ _ | refine blk_drew ?_ | refine blk_alloc ?_ _)); exact BK200.out) hb)
               have n3_ := Aside0.mk (blk_below (g := gb202) (o := .cells #[.int .i64 ji9, .int .i64 0, .int .i64 (wrap64 ((ji9) + a3)), .int .i64 0, .slice Ao44 x203004_1.length co44] 41 (0, 0)) (by (with_reducible repeat (first | refine blk_drewN ?_ _ | refine blk_drew ?_ | refine blk_alloc ?_ _)); exact BK202.out) hb)
               have n4_ := Aside0.mk (blk_below (g := gb214) (o := .cells #[.int .i64 ((rd_T53 l1 x47_1).f0), .int .i64 ((rd_T53 l1 x47_1).f1), .slice A213_2 ((rd_T53 l1 x47_1).f2).length c213_2] 53 (0, 0)) (by (with_reducible repeat (first | refine blk_drewN ?_ _ | refine blk_drew ?_ | refine blk_alloc ?_ _)); exact BK214.out) hb)
               have n5_ := Aside0.mk (below_step (by repeat (first | (with_reducible first | exact HB.out | apply below_alloc | apply pw_below_drewN | apply below_drew1 | refine below_set ?_ GE198.out | refine below_set ?_ GE200.out | refine below_set ?_ GE202.out | refine below_set ?_ GE214.out) | exact HB.out)) hb)
               clear BK198
               clear BK200
               clear BK202
               clear BK214
               clear HB
               clear HO218
               clear HO222
               clear HO225
               clear HO_203004
               have HO228 := n0_
               have BK198 := n1_
               have BK200 := n2_
               have BK202 := n3_
               have BK214 := n4_
               have HB := n5_
               clear n0_ n1_ n2_ n3_ n4_ n5_
               clear hb ho49
               obtain ⟨Ao50, co50, eo50⟩ := Kd.N_slice HO228.out
               (first | subst eo50 | (injection eo50 with f1_ f2_ f3_; have f4_ := f1_.symm; have f5_ := f3_.symm; clear f1_ f2_ f3_; subst f4_; subst f5_))
               refine hK.out _ _ ⟨(blk_cell BK202.out 0).trans rfl, (blk_cell BK202.out 1).trans rfl, (blk_cell BK202.out 2).trans rfl, (blk_cell BK202.out 3).trans rfl, (blk_cell BK202.out 4).trans rfl, (blk_cell BK214.out 0).trans rfl, (blk_cell BK214.out 1).trans rfl, (blk_cell BK214.out 2).trans rfl⟩ (fun hHeld => ?_)
               clear hK K
               refine norm_ (a' := ?_) ?_ ?_
               rotate_left
               ·show Act.put _ (some 72) _ = _
                simp only [Act.put, List.setIfInBounds_toArray, List.set_cons_zero, List.set_cons_succ, i64_w, i32_w]
                rfl
               refine one_ (i := 22) (N := some 73) #[true, true, true, true, true, true, true, true, true, true, true, true, true, true, true, true, true, true, true, true, true, true, true, false, false] rfl rfl (one_of HT_.out (by kernel_rfl)) (by decide) (fun K hK => ?_)
               refine goes_ Try.func39 (by kernel_rfl) rfl #[.slice Ao50 y226.length co50] (by rfl) rfl rfl (by (try simp only [List.map_toArray, List.map_cons, List.map_nil]); first | done | rfl | (simp only [List.length_drop, List.length_take]; rfl)) ?_
               with_reducible refine (slices_Concat_string_string.calls _ _ y226 t229 _ ?side1 ?side2 A31.out).mono ?_
               (case side1 => repeat (first | exact (Kd.N_reads' HO228.out).2.2 | (with_reducible refine Kd.C_alloc ?_ _) | (with_reducible refine Kd.C_drewN ?_ _) | (with_reducible refine Kd.C_drew ?_)))
               (case side2 => exact (Kd.N_reads' HO228.out).2.1)
               rintro e w51 ⟨v230, rfl, ho0, hb⟩
               refine ⟨_, rfl, ?_⟩
               have n0_ := Aside0.mk (Kd.N_elder' (by (with_reducible repeat (first | apply Kd.N_alloc | apply Kd.N_drewN | apply Kd.N_drew)); exact HO228.out) (Kd.R_base ho0) hb)
               have n1_ := Aside0.mk (Kd.R_lower ho0 (below_size (by repeat (first | (with_reducible first | exact HB.out | apply below_alloc | apply pw_below_drewN | apply below_drew1 | refine below_set ?_ GE198.out | refine below_set ?_ GE200.out | refine below_set ?_ GE202.out | refine below_set ?_ GE214.out) | exact HB.out))))
               have n2_ := Aside0.mk (blk_below (g := gb198) (o := .cells #[.int .i64 0, .int .i64 0, .int .i64 0, .int .i64 0, .slice none 0 0] 41 (0, 0)) (by (with_reducible repeat (first | refine blk_drewN ?_ _ | refine blk_drew ?_ | refine blk_alloc ?_ _)); exact BK198.out) hb)
               have n3_ := Aside0.mk (blk_below (g := gb200) (o := .cells #[.int .i64 ((rd_T53 l1 (ji5)).f0), .int .i64 ((rd_T53 l1 (ji5)).f1), .slice A199_2 ((rd_T53 l1 ji5).f2).length c199_2] 53 (0, 0)) (by (with_reducible repeat (first | refine blk_drewN ?_ _ | refine blk_drew ?_ | refine blk_alloc ?_ _)); exact BK200.out) hb)
               have n4_ := Aside0.mk (blk_below (g := gb202) (o := .cells #[.int .i64 ji9, .int .i64 0, .int .i64 (wrap64 ((ji9) + a3)), .int .i64 0, .slice Ao44 x203004_1.length co44] 41 (0, 0)) (by (with_reducible repeat (first | refine blk_drewN ?_ _ | refine blk_drew ?_ | refine blk_alloc ?_ _)); exact BK202.out) hb)
               have n5_ := Aside0.mk (blk_below (g := gb214) (o := .cells #[.int .i64 ((rd_T53 l1 x47_1).f0), .int .i64 ((rd_T53 l1 x47_1).f1), .slice A213_2 ((rd_T53 l1 x47_1).f2).length c213_2] 53 (0, 0)) (by (with_reducible repeat (first | refine blk_drewN ?_ _ | refine blk_drew ?_ | refine blk_alloc ?_ _)); exact BK214.out) hb)
               have n6_ := Aside0.mk (below_step (by repeat (first | (with_reducible first | exact HB.out | apply below_alloc | apply pw_below_drewN | apply below_drew1 | refine below_set ?_ GE198.out | refine below_set ?_ GE200.out | refine below_set ?_ GE202.out | refine below_set ?_ GE214.out) | exact HB.out)) hb)
               clear HO228
               clear BK198
               clear BK200
               clear BK202
               clear BK214
               clear HB
               have HO228 := n0_
               have HO231 := n1_
               have BK198 := n2_
               have BK200 := n3_
               have BK202 := n4_
               have BK214 := n5_
               have HB := n6_
               clear n0_ n1_ n2_ n3_ n4_ n5_ n6_
               (try clear hb)
               (try clear hb2)
               (try clear hk)
               (try clear hi)
               (try clear ho0)
               obtain ⟨Ao52, co52, eo52⟩ := Kd.R_slice HO231.out
               (first | subst eo52 | (injection eo52 with f1_ f2_ f3_; have f4_ := f1_.symm; have f5_ := f3_.symm; clear f1_ f2_ f3_; subst f4_; subst f5_))
               refine hK.out _ _ ⟨(blk_cell BK202.out 0).trans rfl, (blk_cell BK202.out 1).trans rfl, (blk_cell BK202.out 2).trans rfl, (blk_cell BK202.out 3).trans rfl, (blk_cell BK202.out 4).trans rfl, (blk_cell BK214.out 0).trans rfl, (blk_cell BK214.out 1).trans rfl, (blk_cell BK214.out 2).trans rfl⟩ (fun hHeld => ?_)
               clear hK K
               refine norm_ (a' := ?_) ?_ ?_
               rotate_left
               ·show Act.put _ (some 73) _ = _
                simp only [Act.put, List.setIfInBounds_toArray, List.set_cons_zero, List.set_cons_succ, i64_w, i32_w]
                rfl
               refine pure_ (i := 23) (N := some 74) (v := ?_) (a' := ?_) #[true, true, true, true, true, true, true, true, true, true, true, true, true, true, true, true, true, true, true, true, true, true, true, true, false] rfl rfl (any_of HT_.out (by kernel_rfl)) (fun _ _ _ h => h) (Or.inl ⟨by rfl, ?_⟩) ?_ ?_
               rotate_left
               ·intro w'
                go_simp
                with_reducible rfl
               rotate_left
               ·simp only [Act.put, List.setIfInBounds_toArray, List.set_cons_zero, List.set_cons_succ, i64_w, i32_w]
                rfl
               refine last_ (i := 24) (N := none) #[true, true, true, true, true, true, true, true, true, true, true, true, true, true, true, true, true, true, true, true, true, true, true, true, true] rfl rfl (one_of HT_.out (by kernel_rfl)) (by decide) (fun K hK => ?_)
               have hs53 : w51.cell? ⟨gb202, 4, none⟩ = some (.slice Ao44 x203004_1.length co44) := (blk_cell BK202.out 4).trans rfl
               have hfs53 := blk_frozen BK202.out 4
               have hns53_0 := NB198_202.out
               have hns53_1 := NB200_202.out
               have hns53_3 := NB214_202.out
               have hms53_0 := NB202_198.out
               have hms53_1 := NB202_200.out
               have hms53_3 := NB202_214.out
               refine skip_ (w1 := ?_) (by rfl) rfl ?_ ?_
               rotate_left
               ·go_simp
                rfl
               refine hK.out _ _ ?_
               clear hK K
               refine done_ (done_of HT_.out (by kernel_rfl)) ?_
               have hcz54_0 : w51.cell? ⟨gb214, 0, none⟩ = some (.int .i64 ((rd_T53 l1 x47_1).f0)) := (blk_cell BK214.out 0).trans rfl
               have hcz54_1 : w51.cell? ⟨gb214, 1, none⟩ = some (.int .i64 ((rd_T53 l1 x47_1).f1)) := (blk_cell BK214.out 1).trans rfl
               have hcz54_2 : w51.cell? ⟨gb214, 2, none⟩ = some (.slice A213_2 ((rd_T53 l1 x47_1).f2).length c213_2) := (blk_cell BK214.out 2).trans rfl
               have hfz54_0 := blk_frozen BK214.out 0
               have hfz54_1 := blk_frozen BK214.out 1
               have hfz54_2 := blk_frozen BK214.out 2
               try go_wp2
               go_roundg k1
               case measure => have := HK1.out; omega
               case rel => exact ⟨(wrap64 (((rd_T53 l1 x47_1).f0) + ((rd_T53 l1 x47_1).f1))), (wrap64 (x47_1 + 1)), (t229), (.slice Ao52 t229.length co52), (by first | rfl | (simp; done) | (simp [*]; done)), (by first | rfl | (simp; done) | (simp [*]; done)), H', ⟨by have := HK1.out; omega⟩, ⟨by (with_reducible repeat (first | apply Kd.R_alloc | apply Kd.R_drewN | apply Kd.R_drew)); exact Kd.R_mono (Kd.R_far (p := ⟨gb202, 4, none⟩) (Kd.R_types HO231.out BK202.out (by decide)) (fun _ hk => hk.2) (.slice Ao52 t229.length co52)) (fun _ hk => trivial)⟩, ⟨by (with_reducible repeat (first | refine blk_drewN ?_ _ | refine blk_drew ?_ | refine blk_alloc ?_ _)); refine blk_far ?_ NB198_202.out _; (with_reducible repeat (first | refine blk_drewN ?_ _ | refine blk_drew ?_ | refine blk_alloc ?_ _)); exact BK198.out⟩, ⟨by (with_reducible repeat (first | refine blk_drewN ?_ _ | refine blk_drew ?_ | refine blk_alloc ?_ _)); refine blk_far ?_ NB200_202.out _; (with_reducible repeat (first | refine blk_drewN ?_ _ | refine blk_drew ?_ | refine blk_alloc ?_ _)); exact BK200.out⟩, ⟨by (with_reducible repeat (first | refine blk_drewN ?_ _ | refine blk_drew ?_ | refine blk_alloc ?_ _)); refine blk_put (cs := #[.int .i64 ji9, .int .i64 0, .int .i64 (wrap64 ((ji9) + a3)), .int .i64 0, .slice Ao44 x203004_1.length co44]) ?_ 4 _ rfl; (with_reducible repeat (first | refine blk_drewN ?_ _ | refine blk_drew ?_ | refine blk_alloc ?_ _)); exact BK202.out⟩, ⟨by repeat (first | (with_reducible first | exact HB.out | apply below_alloc | apply pw_below_drewN | apply below_drew1 | refine below_set ?_ GE198.out | refine below_set ?_ GE200.out | refine below_set ?_ GE202.out | refine below_set ?_ GE214.out) | exact HB.out)⟩⟩
              ·rw [if_neg c28] at H
               exact absurd H (by simp)
             ·rw [if_neg c27] at H
              exact absurd H (by simp)
            ·rw [if_neg c26] at H
             exact absurd H (by simp)
           ·rw [if_neg c24] at H
            exact absurd H (by simp)
          ·rw [if_neg c23] at H
           exact absurd H (by simp)
         ·rw [if_neg c22] at H
          exact absurd H (by simp)
        ·rw [if_neg c21] at H
         exact absurd H (by simp)
       ·rw [if_neg c20] at H
        exact absurd H (by simp)
      ·rw [if_neg c19] at H
       have c19b0 : decide (x47_1 < (l1.length : Int)) = false := decide_eq_false c19
       clear c19
       by_cases c55 : 0 ≤ x13_1
       ·rw [if_pos c55] at H
        have c55b0 := eq_true c55
        have c55b1 : decide (0 ≤ x13_1) = true := decide_eq_true c55
        clear c55
        by_cases c56 : x13_1 ≤ ji10
        ·rw [if_pos c56] at H
         have c56b0 := eq_true c56
         have c56b1 : decide (x13_1 ≤ ji10) = true := decide_eq_true c56
         clear c56
         by_cases c57 : ji10 ≤ (l0.length : Int)
         ·rw [if_pos c57] at H
          have c57b0 := eq_true c57
          have c57b1 : decide (ji10 ≤ (l0.length : Int)) = true := decide_eq_true c57
          clear c57
          replace H := Option.bind_eq_some_iff.mp H
          obtain ⟨t204, A580, H⟩ := H
          replace H : (if x203004_1.length + t204.length < 8796093022208 then ((some (x203004_1 ++ t204 : List ByteArray)).bind fun y207 => ((hunk_count.f k1 y207).bind fun bt210 => (some (ji9, bt210.1, (wrap64 ((ji9) + a3)), bt210.2.1, y207)))) else (none)) = some (r1, r2, r3, r4, r5) := H
          have A58 := Aside0.mk A580
          clear A580
          by_cases c59 : x203004_1.length + t204.length < 8796093022208
          ·rw [if_pos c59] at H
           have LMc59 := Aside0.mk c59
           clear c59
           obtain ⟨y207, hy207⟩ : ∃ y_ : List ByteArray, y_ = (x203004_1 ++ t204) := ⟨_, rfl⟩
           replace H : ((hunk_count.f k1 y207).bind fun bt210 => (some (ji9, bt210.1, (wrap64 ((ji9) + a3)), bt210.2.1, y207))) = some (r1, r2, r3, r4, r5) := by first | (rw [hy207]; with_reducible exact H) | (have H2_ := (Option.bind_some _ _).symm.trans H; rw [hy207]; with_reducible exact H2_) | (have H2_ := (Option.bind_some _ _).symm.trans H; with_reducible exact H2_) | with_reducible exact H | (rw [hy207]; exact H) | exact H
           have Ny207 := Aside0.mk hy207
           clear hy207
           replace H := Option.bind_eq_some_iff.mp H
           obtain ⟨⟨t210, t211, t212⟩, A600, H⟩ := H
           replace H : (some (ji9, t210, (wrap64 ((ji9) + a3)), t211, y207)) = some (r1, r2, r3, r4, r5) := H
           have A60 := Aside0.mk A600
           clear A600
           simp only [Option.some.injEq, Prod.mk.injEq] at H
           obtain ⟨rfl, rfl, rfl, rfl, rfl⟩ := H
           try go_wp2
           have n0_ := Aside0.mk (Kd.R_drew HO_203004.out)
           have n1_ := Aside0.mk (blk_drew BK198.out)
           have n2_ := Aside0.mk (blk_drew BK200.out)
           have n3_ := Aside0.mk (blk_drew BK202.out)
           have n4_ := Aside0.mk (below_drew1 HB.out)
           clear HO_203004
           clear BK198
           clear BK200
           clear BK202
           clear HB
           have HO_203004 := n0_
           have BK198 := n1_
           have BK200 := n2_
           have BK202 := n3_
           have HB := n4_
           clear n0_ n1_ n2_ n3_ n4_
           obtain ⟨i062, hi062, _, hsz62, _⟩ := info_parts info9
           obtain ⟨A62, hcut62, hA62, hC62⟩ := print_mid_of (P := Try.prog) Value.string (⟨#[]⟩ : ByteArray) 22 9 .i64 .i64 Try.underlying22 hi062 hsz62 A0 c0 l0 x13_1 ji10 (of_decide_eq_true (by first | (with_reducible assumption) | assumption)) (by first | omega | exact of_decide_eq_true (by first | (with_reducible assumption) | assumption)) (of_decide_eq_true (by first | (with_reducible assumption) | assumption)) HC0.out
           have HR203 := Aside0.mk (Kd.C_of_reads (h1 := fun _ => rfl) (hA62 _ (Kd.reads_of_C HR0.out)))
           have HC203 := Aside0.mk hC62
           clear hA62 hC62 hi062 hsz62
           refine start_ (n := 10) (S := fun w' => w'.cell? ⟨gb202, 0, none⟩ = some (.int .i64 ji9) ∧ w'.cell? ⟨gb202, 1, none⟩ = some (.int .i64 0) ∧ w'.cell? ⟨gb202, 2, none⟩ = some (.int .i64 (wrap64 ((ji9) + a3))) ∧ w'.cell? ⟨gb202, 3, none⟩ = some (.int .i64 0) ∧ w'.cell? ⟨gb202, 4, none⟩ = some (u203004)) (ds := [9]) #[false, false, false, false, false, false, false, false, false, false] (by kernel_rfl) rfl rfl ⟨(blk_cell BK202.out 0).trans rfl, (blk_cell BK202.out 1).trans rfl, (blk_cell BK202.out 2).trans rfl, (blk_cell BK202.out 3).trans rfl, (blk_cell BK202.out 4).trans rfl⟩ (fun hHeld => ?_); refine with_tabW hunk_group.tab12 hunk_group.bits12 (fun HT_ HW_ => ?_)
           generalize wr.drew = w61 at HO_203004 BK198 BK200 BK202 HB HR203 hHeld ⊢
           refine pure_ (i := 0) (N := some 81) (v := ?_) (a' := ?_) #[true, false, false, false, false, false, false, false, false, false] rfl rfl (any_of HT_.out (by kernel_rfl)) (fun _ _ _ h => h) (Or.inl ⟨by rfl, ?_⟩) ?_ ?_
           rotate_left
           ·intro w'
            go_simp
            with_reducible rfl
           rotate_left
           ·simp only [Act.put, List.setIfInBounds_toArray, List.set_cons_zero, List.set_cons_succ, i64_w, i32_w]
            rfl
           refine pure_ (i := 2) (N := some 83) (v := ?_) (a' := ?_) #[true, false, true, false, false, false, false, false, false, false] rfl rfl (any_of HT_.out (by kernel_rfl)) (fun _ _ _ h => h) (Or.inl ⟨by rfl, ?_⟩) ?_ ?_
           rotate_left
           ·intro w'
            go_simp
            with_reducible rfl
           rotate_left
           ·simp only [Act.put, List.setIfInBounds_toArray, List.set_cons_zero, List.set_cons_succ, i64_w, i32_w]
            rfl
           refine pure_ (i := 3) (N := some 84) (v := ?_) (a' := ?_) #[true, false, true, true, false, false, false, false, false, false] rfl rfl (any_of HT_.out (by kernel_rfl)) (fun _ _ _ h => h) (Or.inl ⟨by rfl, ?_⟩) ?_ ?_
           rotate_left
           ·intro w'
            go_simp
            with_reducible rfl
           rotate_left
           ·simp only [Act.put, List.setIfInBounds_toArray, List.set_cons_zero, List.set_cons_succ, i64_w, i32_w]
            rfl
           refine pure_ (i := 4) (N := some 85) (v := ?_) (a' := ?_) #[true, false, true, true, true, false, false, false, false, false] rfl rfl (any_of HT_.out (by kernel_rfl)) (fun _ _ _ h => h) (Or.inl ⟨by rfl, ?_⟩) ?_ ?_
           rotate_left
           ·intro w'
            go_simp
            with_reducible rfl
           rotate_left
           ·simp only [Act.put, List.setIfInBounds_toArray, List.set_cons_zero, List.set_cons_succ, i64_w, i32_w]
            rfl
           refine pure_ (i := 5) (N := some 86) (v := ?_) (a' := ?_) #[true, false, true, true, true, true, false, false, false, false] rfl rfl (any_of HT_.out (by kernel_rfl)) (fun _ _ _ h => h) (Or.inl ⟨by rfl, ?_⟩) ?_ ?_
           rotate_left
           ·intro w'
            go_simp
            with_reducible rfl
           rotate_left
           ·simp only [Act.put, List.setIfInBounds_toArray, List.set_cons_zero, List.set_cons_succ, i64_w, i32_w]
            rfl
           refine take_ (i := 1) (N := some 82) (v := ?_) (a' := ?_) #[true, true, true, true, true, true, false, false, false, false] rfl rfl (take_ofW HT_.out HW_.out (by kernel_rfl)) (fun _ _ _ h => h) (Or.inl ⟨by rfl, ?_⟩) hHeld ?_ ?_
           rotate_left
           ·rintro w' ⟨s0, s1, s2, s3, s4⟩
            go_simp
            with_reducible rfl
           rotate_left
           ·simp only [Act.put, List.setIfInBounds_toArray, List.set_cons_zero, List.set_cons_succ, i64_w, i32_w]
            rfl
           refine one_ (i := 6) (N := some 87) #[true, true, true, true, true, true, true, false, false, false] rfl rfl (one_of HT_.out (by kernel_rfl)) (by decide) (fun K hK => ?_)
           refine goes_ Try.func40 (by kernel_rfl) rfl #[.int .u8 32, .slice A62 ((l0.take (ji10 : Int).toNat).drop (x13_1 : Int).toNat).length (c0 - x13_1.toNat)] (by rfl) rfl rfl (by (try simp only [List.map_toArray, List.map_cons, List.map_nil]); first | done | (rw [show ((l0.take (ji10 : Int).toNat).drop (x13_1 : Int).toNat).length = (ji10.toNat - x13_1.toNat) from (by rw [List.length_drop, List.length_take]; have h_ : (ji10 : Int) ≤ (l0.length : Int) := of_decide_eq_true (by first | (with_reducible assumption) | assumption); omega)] <;> rfl) | (simp only [hji10]; rfl) | rfl | (simp only [List.length_drop, List.length_take]; rfl)) ?_
           with_reducible refine (hunk_signed.calls k1 32 _ _ ((l0.take (ji10 : Int).toNat).drop (x13_1 : Int).toNat) t204 _ ?side1 ?side2 A58.out).mono ?_
           (case side1 => repeat (first | exact (Kd.C_below HR203.out HB.out) | (with_reducible refine Kd.C_alloc ?_ _) | (with_reducible refine Kd.C_drewN ?_ _) | (with_reducible refine Kd.C_drew ?_)))
           (case side2 => exact HC203.out)
           rintro e w63 ⟨v205, rfl, ho0, hb⟩
           refine ⟨_, rfl, ?_⟩
           have n0_ := Aside0.mk (Kd.R_elder' (by (with_reducible repeat (first | apply Kd.R_alloc | apply Kd.R_drewN | apply Kd.R_drew)); exact HO_203004.out) (Kd.R_base ho0) hb)
           have n1_ := Aside0.mk (Kd.R_lower (Kd.R_new' ho0 (Kd.R_lt (by (with_reducible repeat (first | apply Kd.R_alloc | apply Kd.R_drewN | apply Kd.R_drew)); exact HO_203004.out))) (below_size (by repeat (first | (with_reducible first | exact HB.out | apply below_alloc | apply pw_below_drewN | apply below_drew1 | refine below_set ?_ GE198.out | refine below_set ?_ GE200.out | refine below_set ?_ GE202.out) | exact HB.out))))
           have n2_ := Aside0.mk (blk_below (g := gb198) (o := .cells #[.int .i64 0, .int .i64 0, .int .i64 0, .int .i64 0, .slice none 0 0] 41 (0, 0)) (by (with_reducible repeat (first | refine blk_drewN ?_ _ | refine blk_drew ?_ | refine blk_alloc ?_ _)); exact BK198.out) hb)
           have n3_ := Aside0.mk (blk_below (g := gb200) (o := .cells #[.int .i64 ((rd_T53 l1 (ji5)).f0), .int .i64 ((rd_T53 l1 (ji5)).f1), .slice A199_2 ((rd_T53 l1 ji5).f2).length c199_2] 53 (0, 0)) (by (with_reducible repeat (first | refine blk_drewN ?_ _ | refine blk_drew ?_ | refine blk_alloc ?_ _)); exact BK200.out) hb)
           have n4_ := Aside0.mk (blk_below (g := gb202) (o := .cells #[.int .i64 ji9, .int .i64 0, .int .i64 (wrap64 ((ji9) + a3)), .int .i64 0, u203004] 41 (0, 0)) (by (with_reducible repeat (first | refine blk_drewN ?_ _ | refine blk_drew ?_ | refine blk_alloc ?_ _)); exact BK202.out) hb)
           have n5_ := Aside0.mk (below_step (by repeat (first | (with_reducible first | exact HB.out | apply below_alloc | apply pw_below_drewN | apply below_drew1 | refine below_set ?_ GE198.out | refine below_set ?_ GE200.out | refine below_set ?_ GE202.out) | exact HB.out)) hb)
           clear HO_203004
           clear BK198
           clear BK200
           clear BK202
           clear HB
           have HO_203004 := n0_
           have HO206 := n1_
           have BK198 := n2_
           have BK200 := n3_
           have BK202 := n4_
           have HB := n5_
           clear n0_ n1_ n2_ n3_ n4_ n5_
           (try clear hb)
           (try clear hb2)
           (try clear hk)
           (try clear hi)
           (try clear ho0)
           obtain ⟨Ao65, co65, eo65⟩ := Kd.R_slice HO206.out
           (first | subst eo65 | (injection eo65 with f1_ f2_ f3_; have f4_ := f1_.symm; have f5_ := f3_.symm; clear f1_ f2_ f3_; subst f4_; subst f5_))
           refine hK.out _ _ ⟨(blk_cell BK202.out 0).trans rfl, (blk_cell BK202.out 1).trans rfl, (blk_cell BK202.out 2).trans rfl, (blk_cell BK202.out 3).trans rfl, (blk_cell BK202.out 4).trans rfl⟩ (fun hHeld => ?_)
           clear hK K
           refine norm_ (a' := ?_) ?_ ?_
           rotate_left
           ·show Act.put _ (some 87) _ = _
            simp only [Act.put, List.setIfInBounds_toArray, List.set_cons_zero, List.set_cons_succ, i64_w, i32_w]
            rfl
           refine one_ (i := 7) (N := some 88) #[true, true, true, true, true, true, true, true, false, false] rfl rfl (one_of HT_.out (by kernel_rfl)) (by decide) (fun K hK => ?_)
           refine Kd.R_append_rows_step Kd.string (w0 := w) w.heap.size (by rfl) (.tmp 82) (.tmp 87) 22 9 (.string ⟨#[]⟩) 16 rfl Try.underlying22 info9 rfl (by decide) (by omega) u203004 x203004_1 t204 _ _ _ (fun k_ => some k_ ≠ (.slice Ao65 t204.length co65 : Value).ownBlock) (fun _ => False) rfl rfl ?aO ?aR (fun _ _ h => h) (fun _ h => h.elim) ?aF ?aB ?aS ?aL ?_
           (case aR => repeat (first | exact (Kd.R_reads' HO206.out).2.2 | (with_reducible refine Kd.C_alloc ?_ _) | (with_reducible refine Kd.C_drewN ?_ _) | (with_reducible refine Kd.C_drew ?_)))
           (case aB => exact (by repeat (first | (with_reducible first | exact HB.out | apply below_alloc | apply pw_below_drewN | apply below_drew1 | refine below_set ?_ GE198.out | refine below_set ?_ GE200.out | refine below_set ?_ GE202.out) | exact HB.out)))
           (case aF => exact (fun k_ hk => Kd.fresh' (Kd.R_lt (by (with_reducible repeat (first | apply Kd.R_alloc | apply Kd.R_drewN | apply Kd.R_drew)); exact HO206.out)) k_ hk))
           (case aO => exact (by (with_reducible repeat (first | apply Kd.R_alloc | apply Kd.R_drewN | apply Kd.R_drew)); exact Kd.R_mono HO_203004.out (fun _ hk => hk.2)))
           (case aS => exact (below_size (by repeat (first | (with_reducible first | exact HB.out | apply below_alloc | apply pw_below_drewN | apply below_drew1 | refine below_set ?_ GE198.out | refine below_set ?_ GE200.out | refine below_set ?_ GE202.out) | exact HB.out))))
           (case aL => have := LMc59.out; omega)
           intro v208 w64 ho hb hg hat
           rw [← Ny207.out] at ho
           have n0_ := Aside0.mk (blk_grown (g := gb198) (o := .cells #[.int .i64 0, .int .i64 0, .int .i64 0, .int .i64 0, .slice none 0 0] 41 (0, 0)) (by (with_reducible repeat (first | refine blk_drewN ?_ _ | refine blk_drew ?_ | refine blk_alloc ?_ _)); exact BK198.out) hg (Kd.R_ne HO_203004.out BK198.out (by decide)))
           have n1_ := Aside0.mk (blk_grown (g := gb200) (o := .cells #[.int .i64 ((rd_T53 l1 (ji5)).f0), .int .i64 ((rd_T53 l1 (ji5)).f1), .slice A199_2 ((rd_T53 l1 ji5).f2).length c199_2] 53 (0, 0)) (by (with_reducible repeat (first | refine blk_drewN ?_ _ | refine blk_drew ?_ | refine blk_alloc ?_ _)); exact BK200.out) hg (Kd.R_ne HO_203004.out BK200.out (by decide)))
           have n2_ := Aside0.mk (blk_grown (g := gb202) (o := .cells #[.int .i64 ji9, .int .i64 0, .int .i64 (wrap64 ((ji9) + a3)), .int .i64 0, u203004] 41 (0, 0)) (by (with_reducible repeat (first | refine blk_drewN ?_ _ | refine blk_drew ?_ | refine blk_alloc ?_ _)); exact BK202.out) hg (Kd.R_ne HO_203004.out BK202.out (by decide)))
           have n3_ := Aside0.mk (Kd.R_after (ok := (fun _ => True)) (by (with_reducible repeat (first | apply Kd.R_alloc | apply Kd.R_drewN | apply Kd.R_drew)); exact HO206.out) hg hat)
           have n4_ := Aside0.mk (hb)
           have n5_ := Aside0.mk (ho)
           clear BK198
           clear BK200
           clear BK202
           clear HO206
           clear HB
           clear HO_203004
           have BK198 := n0_
           have BK200 := n1_
           have BK202 := n2_
           have HO206 := n3_
           have HB := n4_
           have HO209 := n5_
           clear n0_ n1_ n2_ n3_ n4_ n5_
           clear ho hb hg hat
           obtain ⟨Ao66, co66, eo66⟩ := Kd.R_slice HO209.out
           (first | subst eo66 | (injection eo66 with f1_ f2_ f3_; have f4_ := f1_.symm; have f5_ := f3_.symm; clear f1_ f2_ f3_; subst f4_; subst f5_))
           refine hK.out _ _ ⟨(blk_cell BK202.out 0).trans rfl, (blk_cell BK202.out 1).trans rfl, (blk_cell BK202.out 2).trans rfl, (blk_cell BK202.out 3).trans rfl, (blk_cell BK202.out 4).trans rfl⟩ (fun hHeld => ?_)
           clear hK K
           refine norm_ (a' := ?_) ?_ ?_
           rotate_left
           ·show Act.put _ (some 88) _ = _
            simp only [Act.put, List.setIfInBounds_toArray, List.set_cons_zero, List.set_cons_succ, i64_w, i32_w]
            rfl
           refine pure_ (i := 8) (N := some 89) (v := ?_) (a' := ?_) #[true, true, true, true, true, true, true, true, true, false] rfl rfl (any_of HT_.out (by kernel_rfl)) (fun _ _ _ h => h) (Or.inl ⟨by rfl, ?_⟩) ?_ ?_
           rotate_left
           ·intro w'
            go_simp
            with_reducible rfl
           rotate_left
           ·simp only [Act.put, List.setIfInBounds_toArray, List.set_cons_zero, List.set_cons_succ, i64_w, i32_w]
            rfl
           refine last_ (i := 9) (N := none) #[true, true, true, true, true, true, true, true, true, true] rfl rfl (one_of HT_.out (by kernel_rfl)) (by decide) (fun K hK => ?_)
           have hs67 : w64.cell? ⟨gb202, 4, none⟩ = some (u203004) := (blk_cell BK202.out 4).trans rfl
           have hfs67 := blk_frozen BK202.out 4
           have hns67_0 := NB198_202.out
           have hns67_1 := NB200_202.out
           have hms67_0 := NB202_198.out
           have hms67_1 := NB202_200.out
           refine skip_ (w1 := ?_) (by rfl) rfl ?_ ?_
           rotate_left
           ·go_simp
            rfl
           refine hK.out _ _ ?_
           clear hK K
           refine done_ (done_of HT_.out (by kernel_rfl)) ?_
           have hnb68 := NB202_198.out
           have hnc68 := NB198_202.out
           have hnb69 := NB202_200.out
           have hnc69 := NB200_202.out
           have hcz70_0 : w64.cell? ⟨gb202, 0, none⟩ = some (.int .i64 ji9) := (blk_cell BK202.out 0).trans rfl
           have hcz70_1 : w64.cell? ⟨gb202, 1, none⟩ = some (.int .i64 0) := (blk_cell BK202.out 1).trans rfl
           have hcz70_2 : w64.cell? ⟨gb202, 2, none⟩ = some (.int .i64 (wrap64 ((ji9) + a3))) := (blk_cell BK202.out 2).trans rfl
           have hcz70_3 : w64.cell? ⟨gb202, 3, none⟩ = some (.int .i64 0) := (blk_cell BK202.out 3).trans rfl
           have hcz70_4 : w64.cell? ⟨gb202, 4, none⟩ = some (u203004) := (blk_cell BK202.out 4).trans rfl
           have hfz70_0 := blk_frozen BK202.out 0
           have hfz70_1 := blk_frozen BK202.out 1
           have hfz70_2 := blk_frozen BK202.out 2
           have hfz70_3 := blk_frozen BK202.out 3
           have hfz70_4 := blk_frozen BK202.out 4
           try go_wp2_with (((with_reducible refine gate_callee (f := 37) rfl ?_); refine goesL_ (some 93) rfl rfl Try.func37 (by kernel_rfl) rfl #[.slice Ao66 y207.length co66] rfl (by (try simp only [List.map_toArray, List.map_cons, List.map_nil]); first | done | rfl | (simp only [List.length_drop, List.length_take]; rfl)) ?_; (with_reducible refine (hunk_count.calls k1 _ _ y207 t210 t211 t212 _ ?side1 ?side2 A60.out).mono ?_); (case side1 => refine (Kd.R_reads' (e := 9) (base := w.heap.size) (ok := fun k_ => some k_ ≠ (.slice Ao65 t204.length co65 : Value).ownBlock) (n := y207.length) (c := co66) ?_).2.2; exact (by (with_reducible repeat (first | apply Kd.R_alloc | apply Kd.R_drewN | apply Kd.R_drew)); exact (Kd.R_mono (Kd.R_far (p := ⟨gb202, 4, none⟩) (Kd.R_types HO209.out BK202.out (by decide)) (fun _ hk => hk.2) (.slice Ao66 y207.length co66)) (fun _ h_ => h_.1)))); (case side2 => exact (Kd.R_reads' HO209.out).2.1); rintro e w' ⟨rfl, ⟨nd, rfl⟩⟩; refine ⟨_, rfl, ?_⟩; have hnb71 := NB198_200.out; have hnc71 := NB200_198.out; have hcz72_0 : w64.cell? ⟨gb198, 0, none⟩ = some (.int .i64 0) := (blk_cell BK198.out 0).trans rfl; have hcz72_1 : w64.cell? ⟨gb198, 1, none⟩ = some (.int .i64 0) := (blk_cell BK198.out 1).trans rfl; have hcz72_2 : w64.cell? ⟨gb198, 2, none⟩ = some (.int .i64 0) := (blk_cell BK198.out 2).trans rfl; have hcz72_3 : w64.cell? ⟨gb198, 3, none⟩ = some (.int .i64 0) := (blk_cell BK198.out 3).trans rfl; have hcz72_4 : w64.cell? ⟨gb198, 4, none⟩ = some (.slice none 0 0) := (blk_cell BK198.out 4).trans rfl; have hfz72_0 := blk_frozen BK198.out 0; have hfz72_1 := blk_frozen BK198.out 1; have hfz72_2 := blk_frozen BK198.out 2; have hfz72_3 := blk_frozen BK198.out 3; have hfz72_4 := blk_frozen BK198.out 4))
           refine bodyPost_ret (results_cell_row rfl _ _ gb198 41 #[.int .i64 ji9, .int .i64 t210, .int .i64 (wrap64 ((ji9) + a3)), .int .i64 t211, .slice Ao66 y207.length co66] (0, 0) _ rfl (by (with_reducible repeat (first | refine blk_drewN ?_ _ | refine blk_drew ?_ | refine blk_alloc ?_ _)); refine blk_put (cs := #[.int .i64 ji9, .int .i64 t210, .int .i64 (wrap64 ((ji9) + a3)), .int .i64 t211, .slice none 0 0]) ?_ 4 _ rfl; (with_reducible repeat (first | refine blk_drewN ?_ _ | refine blk_drew ?_ | refine blk_alloc ?_ _)); refine blk_put (cs := #[.int .i64 ji9, .int .i64 t210, .int .i64 (wrap64 ((ji9) + a3)), .int .i64 0, .slice none 0 0]) ?_ 3 _ rfl; (with_reducible repeat (first | refine blk_drewN ?_ _ | refine blk_drew ?_ | refine blk_alloc ?_ _)); refine blk_put (cs := #[.int .i64 ji9, .int .i64 t210, .int .i64 0, .int .i64 0, .slice none 0 0]) ?_ 2 _ rfl; (with_reducible repeat (first | refine blk_drewN ?_ _ | refine blk_drew ?_ | refine blk_alloc ?_ _)); refine blk_put (cs := #[.int .i64 ji9, .int .i64 0, .int .i64 0, .int .i64 0, .slice none 0 0]) ?_ 1 _ rfl; (with_reducible repeat (first | refine blk_drewN ?_ _ | refine blk_drew ?_ | refine blk_alloc ?_ _)); refine blk_put (cs := #[.int .i64 0, .int .i64 0, .int .i64 0, .int .i64 0, .slice none 0 0]) ?_ 0 _ rfl; (with_reducible repeat (first | refine blk_drewN ?_ _ | refine blk_drew ?_ | refine blk_alloc ?_ _)); refine blk_far ?_ NB198_202.out _; (with_reducible repeat (first | refine blk_drewN ?_ _ | refine blk_drew ?_ | refine blk_alloc ?_ _)); refine blk_far ?_ NB198_202.out _; (with_reducible repeat (first | refine blk_drewN ?_ _ | refine blk_drew ?_ | refine blk_alloc ?_ _)); refine blk_far ?_ NB198_202.out _; (with_reducible repeat (first | refine blk_drewN ?_ _ | refine blk_drew ?_ | refine blk_alloc ?_ _)); exact BK198.out) Try.underlying41 rfl (by kernel_rfl)) rfl ?_
           exact ⟨_, by first | rfl | (simp [errW_none, errW_some] <;> rfl) | (simp only [← hji5, ← hji9, ← hji10]; first | rfl | (simp [errW_none, errW_some] <;> rfl)) | (simp [*, errW_none, errW_some] <;> rfl), by (with_reducible repeat (first | apply Kd.R_alloc | apply Kd.R_drewN | apply Kd.R_drew)); exact Kd.R_mono (Kd.R_far (p := ⟨gb198, 4, none⟩) (Kd.R_far (p := ⟨gb198, 3, none⟩) (Kd.R_far (p := ⟨gb198, 2, none⟩) (Kd.R_far (p := ⟨gb198, 1, none⟩) (Kd.R_far (p := ⟨gb198, 0, none⟩) (Kd.R_far (p := ⟨gb202, 3, none⟩) (Kd.R_far (p := ⟨gb202, 1, none⟩) (Kd.R_far (p := ⟨gb202, 4, none⟩) (Kd.R_types (Kd.R_types HO209.out BK202.out (by decide)) BK198.out (by decide)) (fun _ hk => hk.1.2) (.slice Ao66 y207.length co66)) (fun _ hk => hk.1.2) (.int .i64 t210)) (fun _ hk => hk.1.2) (.int .i64 t211)) (fun _ hk => hk.2) (.int .i64 ji9)) (fun _ hk => hk.2) (.int .i64 t210)) (fun _ hk => hk.2) (.int .i64 (wrap64 ((ji9) + a3)))) (fun _ hk => hk.2) (.int .i64 t211)) (fun _ hk => hk.2) (.slice Ao66 y207.length co66)) (fun _ hk => trivial), by repeat (first | (with_reducible first | exact HB.out | apply below_alloc | apply pw_below_drewN | apply below_drew1 | refine below_set ?_ GE198.out | refine below_set ?_ GE200.out | refine below_set ?_ GE202.out) | exact HB.out)⟩
          ·rw [if_neg c59] at H
           exact absurd H (by simp)
         ·rw [if_neg c57] at H
          exact absurd H (by simp)
        ·rw [if_neg c56] at H
         exact absurd H (by simp)
       ·rw [if_neg c55] at H
        exact absurd H (by simp)
   ·rw [if_neg c8] at H
    exact absurd H (by simp)
  ·rw [if_neg c7] at H
   exact absurd H (by simp)
 ·rw [if_neg c6] at H
  exact absurd H (by simp)

end Go.Proofs.Ytoaijganmfijmaa.Pr
-- shrunk
