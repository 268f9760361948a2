/-
Several plain texts in one.
-/
import Derived.Test.YtamojbfmphainaaDoorK0
import Derived.Test.YtamojbfmphainaaDoorK2
import Derived.Outline
import Derived.Test.YtamojbfmphainaaDoorK1
-- written by a program of this session's (a turned copy of the kit's printer); Lean checks it
namespace Go.Proofs.YtamojbfmphainaaDoor.Pr
open Go.RowKit Go.Proofs.YtamojbfmphainaaDoorW.PrintWords Go.Proofs.YtamojbfmphainaaDoorW.PrintLast Go.Proofs.YtamojbfmphainaaDoorW.PrintMore
attribute [local go_sem] max2_int min2_int max_two min_two max_three min_three max_four min_four   -- for this text's walks alone
set_option linter.unusedVariables false
set_option linter.unusedSimpArgs false

mutual
def grapevineref06_can.l0 : Nat → Bool → Int → Int → Int → Int → Int → List ByteArray → Option (Bool)
 | 0, _, _, _, _, _, _, _ => none
 | k + 1, x3, x4, x171000, x171001, x171002, x171003, x171004 => if x4 < (x171004.length : Int) then (grapevineref06_can.l1 k x3 x4 0 x171000 x171001 x171002 x171003 x171004) else (if x171000 > 2147483646 then (if x171001 > 0 then (some false) else (if x171002 > 2147483646 then (if x171003 > 0 then (some false) else (if x3 = true then (if x171000 < 2147483648 then (if x171001 < 2147483648 then (if x171002 < 2147483648 then (some (decide (x171003 < 2147483648))) else (some false)) else (some false)) else (some false)) else (some false))) else (if x3 = true then (if x171000 < 2147483648 then (if x171001 < 2147483648 then (if x171002 < 2147483648 then (some (decide (x171003 < 2147483648))) else (some false)) else (some false)) else (some false)) else (some false)))) else (if x171002 > 2147483646 then (if x171003 > 0 then (some false) else (if x3 = true then (if x171000 < 2147483648 then (if x171001 < 2147483648 then (if x171002 < 2147483648 then (some (decide (x171003 < 2147483648))) else (some false)) else (some false)) else (some false)) else (some false))) else (if x3 = true then (if x171000 < 2147483648 then (if x171001 < 2147483648 then (if x171002 < 2147483648 then (some (decide (x171003 < 2147483648))) else (some false)) else (some false)) else (some false)) else (some false))))
def grapevineref06_can.l1 : Nat → Bool → Int → Int → Int → Int → Int → Int → List ByteArray → Option (Bool)
 | 0, _, _, _, _, _, _, _, _ => none
 | k + 1, x3, x4, x5, x171000, x171001, x171002, x171003, x171004 => if 0 ≤ x4 then (if x4 < (x171004.length : Int) then (if x5 < (wrap64 (((rdOf ByteArray.empty x171004 x4).size : Int) - 1)) then (if 0 ≤ x5 then (if x5 < ((rdOf ByteArray.empty x171004 x4).size : Int) then (if (bt (rdOf ByteArray.empty x171004 x4) x5) = 10 then (some false) else (grapevineref06_can.l1 k x3 x4 (wrap64 (x5 + 1)) x171000 x171001 x171002 x171003 x171004)) else (none)) else (none)) else (grapevineref06_can.l0 k x3 (wrap64 (x4 + 1)) x171000 x171001 x171002 x171003 x171004)) else (none)) else (none)
end
def grapevineref06_can.f (k : Nat) (a0_0 : Int) (a0_1 : Int) (a0_2 : Int) (a0_3 : Int) (l0_4 : List ByteArray) : Option (Bool) := (grapevineref05_Right.f k a0_0 a0_1 a0_2 a0_3 l0_4).bind fun t171 => (grapevineref06_can.l0 k t171 0 a0_0 a0_1 a0_2 a0_3 l0_4)
theorem grapevineref06_can.mono_l : ∀ k, (∀ y0 y1 y2 y3 y4 y5 y6, LeO (grapevineref06_can.l0 k y0 y1 y2 y3 y4 y5 y6) (grapevineref06_can.l0 (k + 1) y0 y1 y2 y3 y4 y5 y6)) ∧ (∀ y0 y1 y2 y3 y4 y5 y6 y7, LeO (grapevineref06_can.l1 k y0 y1 y2 y3 y4 y5 y6 y7) (grapevineref06_can.l1 (k + 1) y0 y1 y2 y3 y4 y5 y6 y7))
 | 0 => ⟨fun _ _ _ _ _ _ _ r h => by simp [grapevineref06_can.l0] at h, fun _ _ _ _ _ _ _ _ r h => by simp [grapevineref06_can.l1] at h⟩
 | k + 1 => by
  obtain ⟨ih0, ih1⟩ := grapevineref06_can.mono_l k
  refine ⟨?_, ?_⟩
  ·intro y0 y1 y2 y3 y4 y5 y6
   unfold grapevineref06_can.l0
   repeat' first
   | (with_reducible exact ih0 _ _ _ _ _ _ _)
   | (with_reducible exact ih1 _ _ _ _ _ _ _ _)
   | (with_reducible exact grapevineref05_Right.mono _ _ _ _ _ _)
   | (with_reducible exact LeO.refl _)
   | (with_reducible exact LeO.none _)
   | (with_reducible refine LeO.ite ?_ ?_)
   | (with_reducible refine LeO.bind ?_ (fun _ => ?_))
   | exact ih0 _ _ _ _ _ _ _
   | exact ih1 _ _ _ _ _ _ _ _
   | exact grapevineref05_Right.mono _ _ _ _ _ _
   | exact LeO.none _
   | refine LeO.ite ?_ ?_
   | refine LeO.bind ?_ (fun _ => ?_)
  ·intro y0 y1 y2 y3 y4 y5 y6 y7
   unfold grapevineref06_can.l1
   repeat' first
   | (with_reducible exact ih0 _ _ _ _ _ _ _)
   | (with_reducible exact ih1 _ _ _ _ _ _ _ _)
   | (with_reducible exact grapevineref05_Right.mono _ _ _ _ _ _)
   | (with_reducible exact LeO.refl _)
   | (with_reducible exact LeO.none _)
   | (with_reducible refine LeO.ite ?_ ?_)
   | (with_reducible refine LeO.bind ?_ (fun _ => ?_))
   | exact ih0 _ _ _ _ _ _ _
   | exact ih1 _ _ _ _ _ _ _ _
   | exact grapevineref05_Right.mono _ _ _ _ _ _
   | exact LeO.none _
   | refine LeO.ite ?_ ?_
   | refine LeO.bind ?_ (fun _ => ?_)
theorem grapevineref06_can.mono : ∀ a0 a1 a2 a3 a4 k, LeO (grapevineref06_can.f k a0 a1 a2 a3 a4) (grapevineref06_can.f (k + 1) a0 a1 a2 a3 a4) := by
 intro a0 a1 a2 a3 a4 k
 obtain ⟨ih0, ih1⟩ := grapevineref06_can.mono_l k
 unfold grapevineref06_can.f
 repeat' first
   | (with_reducible exact ih0 _ _ _ _ _ _ _)
   | (with_reducible exact ih1 _ _ _ _ _ _ _ _)
   | (with_reducible exact grapevineref05_Right.mono _ _ _ _ _ _)
   | (with_reducible exact LeO.refl _)
   | (with_reducible exact LeO.none _)
   | (with_reducible refine LeO.ite ?_ ?_)
   | (with_reducible refine LeO.bind ?_ (fun _ => ?_))
   | exact ih0 _ _ _ _ _ _ _
   | exact ih1 _ _ _ _ _ _ _ _
   | exact grapevineref05_Right.mono _ _ _ _ _ _
   | exact LeO.none _
   | refine LeO.ite ?_ ?_
   | refine LeO.bind ?_ (fun _ => ?_)
set_option maxHeartbeats 8000000 in
set_option maxRecDepth 100000 in
theorem grapevineref06_can.calls (k : Nat) (a0_0 : Int) (a0_1 : Int) (a0_2 : Int) (a0_3 : Int) (A0_4 : Option Addr) (c0_4 : Nat) (l0_4 : List ByteArray) (r : Bool) (w : World) (hr0_4 : Kd.C Kd.string w A0_4 l0_4.length l0_4) (hc0_4 : l0_4.length ≤ c0_4) (h : grapevineref06_can.f k a0_0 a0_1 a0_2 a0_3 l0_4 = some r) :
  Calls Tryd.prog 27 #[.agg #[.int .i64 a0_0, .int .i64 a0_1, .int .i64 a0_2, .int .i64 a0_3, .slice A0_4 l0_4.length c0_4]] w fun e w' => e = .returned (.bool r) ∧ Below w.heap.size w w' := by
 have hu41 := Tryd.underlying41
 have HR0_4 := Aside0.mk hr0_4
 have HC0_4 := Aside0.mk hc0_4
 clear hr0_4 hc0_4
 have HB := Aside0.mk (Below.refl w.heap.size w)
 have H : ((grapevineref05_Right.f k a0_0 a0_1 a0_2 a0_3 l0_4).bind fun t171 => (grapevineref06_can.l0 k t171 0 a0_0 a0_1 a0_2 a0_3 l0_4)) = some r := h
 clear h
 replace H := Option.bind_eq_some_iff.mp H
 obtain ⟨t171, A20, H⟩ := H
 replace H : (grapevineref06_can.l0 k t171 0 a0_0 a0_1 a0_2 a0_3 l0_4) = some r := H
 have A2 := Aside0.mk A20
 clear A20
 have H' := Aside0.mk H
 clear H
 go_enter Tryd.func27, Tryd.ntmps27
 go_wp2_with (first | ((with_reducible refine gate_dst (N := 1) rfl ?_); refine box_event ?hg (N := 1) ?hd (cs := #[.int .i64 a0_0, .int .i64 a0_1, .int .i64 a0_2, .int .i64 a0_3, .slice A0_4 l0_4.length c0_4]) (t := 41) ?hr ?_; (case hd => rfl); (case hg => rfl); (case hr => first | (go_simp; done) | (go_simp; rfl)); intro gb170 hg w3 hbox hb; have n0_ := Aside0.mk (below_step (by repeat (first | (with_reducible first | exact HB.out | apply below_alloc | apply pw_below_drewN | apply below_drew1) | exact HB.out)) hb); have n1_ := Aside0.mk (hbox); have n2_ := Aside0.mk ((by rw [hg]; exact (below_size (by repeat (first | (with_reducible first | exact HB.out | apply below_alloc | apply pw_below_drewN | apply below_drew1) | exact HB.out))) : w.heap.size ≤ gb170)); have n3_ := Aside0.mk ((by rw [hg]; exact (below_size (by repeat (first | (with_reducible first | exact HB.out | apply below_alloc | apply pw_below_drewN | apply below_drew1) | exact HB.out))) : w.heap.size ≤ gb170)); clear HB; have HB := n0_; have BK170 := n1_; have GW170 := n2_; have GE170 := n3_; clear n0_ n1_ n2_ n3_; clear hb hbox hg; have hcz4_0 : w3.cell? ⟨gb170, 0, none⟩ = some (.int .i64 a0_0) := (blk_cell BK170.out 0).trans rfl; have hcz4_1 : w3.cell? ⟨gb170, 1, none⟩ = some (.int .i64 a0_1) := (blk_cell BK170.out 1).trans rfl; have hcz4_2 : w3.cell? ⟨gb170, 2, none⟩ = some (.int .i64 a0_2) := (blk_cell BK170.out 2).trans rfl; have hcz4_3 : w3.cell? ⟨gb170, 3, none⟩ = some (.int .i64 a0_3) := (blk_cell BK170.out 3).trans rfl; have hcz4_4 : w3.cell? ⟨gb170, 4, none⟩ = some (.slice A0_4 l0_4.length c0_4) := (blk_cell BK170.out 4).trans rfl; have hfz4_0 := blk_frozen BK170.out 0; have hfz4_1 := blk_frozen BK170.out 1; have hfz4_2 := blk_frozen BK170.out 2; have hfz4_3 := blk_frozen BK170.out 3; have hfz4_4 := blk_frozen BK170.out 4) | ((with_reducible refine gate_callee (f := 57) rfl ?_); refine goesL_ (some 7) rfl rfl Tryd.func57 (by kernel_rfl) rfl #[.agg #[.int .i64 a0_0, .int .i64 a0_1, .int .i64 a0_2, .int .i64 a0_3, .slice A0_4 l0_4.length c0_4]] rfl (by (try simp only [List.map_toArray, List.map_cons, List.map_nil]); first | done | rfl | (simp only [List.length_drop, List.length_take]; rfl)) ?_; (with_reducible refine (grapevineref05_Right.calls k a0_0 a0_1 a0_2 a0_3 _ _ l0_4 t171 _ ?side1 ?side2 A2.out).mono ?_); (case side1 => repeat (first | exact (Kd.C_below HR0_4.out HB.out) | (with_reducible refine Kd.C_alloc ?_ _) | (with_reducible refine Kd.C_drewN ?_ _) | (with_reducible refine Kd.C_drew ?_))); (case side2 => exact HC0_4.out); rintro e w5 ⟨rfl, hb⟩; refine ⟨_, rfl, ?_⟩; have n0_ := Aside0.mk (blk_below (g := gb170) (o := .cells #[.int .i64 a0_0, .int .i64 a0_1, .int .i64 a0_2, .int .i64 a0_3, .slice A0_4 l0_4.length c0_4] 41 (0, 0)) (by (with_reducible repeat (first | refine blk_drewN ?_ _ | refine blk_drew ?_ | refine blk_alloc ?_ _)); exact BK170.out) hb); have n1_ := Aside0.mk (below_step (by repeat (first | (with_reducible first | exact HB.out | apply below_alloc | apply pw_below_drewN | apply below_drew1 | refine below_set ?_ GE170.out) | exact HB.out)) hb); clear BK170; clear HB; have BK170 := n0_; have HB := n1_; clear n0_ n1_; (try clear hb); (try clear hb2); (try clear hk); (try clear hi)))
 go_loopg [4] k (fun kq v4 w' => ∃ (x4_1 : Int), v4 = .int .i64 x4_1 ∧ Aside0 (grapevineref06_can.l0 kq t171 x4_1 a0_0 a0_1 a0_2 a0_3 l0_4 = some r) ∧ Aside0 (kq ≤ k) ∧ Aside0 (w'.heap[gb170]? = some (.cells #[.int .i64 a0_0, .int .i64 a0_1, .int .i64 a0_2, .int .i64 a0_3, (.slice A0_4 l0_4.length c0_4)] 41 (0, 0))) ∧ Aside0 (Below w.heap.size w w'))
 case atStart => exact ⟨(0), (by first | rfl | (simp; done) | (simp [*]; done)), H', ⟨Nat.le_refl _⟩, ⟨by (with_reducible repeat (first | refine blk_drewN ?_ _ | refine blk_drew ?_ | refine blk_alloc ?_ _)); exact BK170.out⟩, ⟨by repeat (first | (with_reducible first | exact HB.out | apply below_alloc | apply pw_below_drewN | apply below_drew1 | refine below_set ?_ GE170.out) | exact HB.out)⟩⟩
 case round =>
  clear H'
  try clear c2
  try clear p2
  try clear c5
  try clear hcz4_0
  try clear hcz4_1
  try clear hcz4_2
  try clear hcz4_3
  try clear hcz4_4
  try clear hfz4_0
  try clear hfz4_1
  try clear hfz4_2
  try clear hfz4_3
  try clear hfz4_4
  obtain ⟨x4_1, rfl, HA, HK1, BK170, HB⟩ := hrel
  cases gk with
  | zero => exact absurd HA.out (by simp [grapevineref06_can.l0])
  | succ k1 =>
   have H := HA.out
   clear HA
   simp only [grapevineref06_can.l0] at H
   by_cases c6 : x4_1 < (l0_4.length : Int)
   ·rw [if_pos c6] at H
    have c6b0 : decide (x4_1 < (l0_4.length : Int)) = true := decide_eq_true c6
    clear c6
    have H' := Aside0.mk H
    clear H
    have hcz7_0 : wr.cell? ⟨gb170, 0, none⟩ = some (.int .i64 a0_0) := (blk_cell BK170.out 0).trans rfl
    have hcz7_1 : wr.cell? ⟨gb170, 1, none⟩ = some (.int .i64 a0_1) := (blk_cell BK170.out 1).trans rfl
    have hcz7_2 : wr.cell? ⟨gb170, 2, none⟩ = some (.int .i64 a0_2) := (blk_cell BK170.out 2).trans rfl
    have hcz7_3 : wr.cell? ⟨gb170, 3, none⟩ = some (.int .i64 a0_3) := (blk_cell BK170.out 3).trans rfl
    have hcz7_4 : wr.cell? ⟨gb170, 4, none⟩ = some (.slice A0_4 l0_4.length c0_4) := (blk_cell BK170.out 4).trans rfl
    have hfz7_0 := blk_frozen BK170.out 0
    have hfz7_1 := blk_frozen BK170.out 1
    have hfz7_2 := blk_frozen BK170.out 2
    have hfz7_3 := blk_frozen BK170.out 3
    have hfz7_4 := blk_frozen BK170.out 4
    go_wp2
    go_loopg [5] k1 (fun kq v5 w' => ∃ (x5_2 : Int), v5 = .int .i64 x5_2 ∧ Aside0 (grapevineref06_can.l1 kq t171 x4_1 x5_2 a0_0 a0_1 a0_2 a0_3 l0_4 = some r) ∧ Aside0 (kq ≤ k1) ∧ Aside0 (w'.heap[gb170]? = some (.cells #[.int .i64 a0_0, .int .i64 a0_1, .int .i64 a0_2, .int .i64 a0_3, (.slice A0_4 l0_4.length c0_4)] 41 (0, 0))) ∧ Aside0 (Below w.heap.size w w'))
    case atStart => exact ⟨(0), (by first | rfl | (simp; done) | (simp [*]; done)), H', ⟨Nat.le_refl _⟩, ⟨by (with_reducible repeat (first | refine blk_drewN ?_ _ | refine blk_drew ?_ | refine blk_alloc ?_ _)); exact BK170.out⟩, ⟨by repeat (first | (with_reducible first | exact HB.out | apply below_alloc | apply pw_below_drewN | apply below_drew1 | refine below_set ?_ GE170.out) | exact HB.out)⟩⟩
    case round =>
     clear H'
     try clear c2
     try clear p2
     try clear c5
     try clear c6
     try clear c6b0
     try clear hcz4_0
     try clear hcz4_1
     try clear hcz4_2
     try clear hcz4_3
     try clear hcz4_4
     try clear hcz7_0
     try clear hcz7_1
     try clear hcz7_2
     try clear hcz7_3
     try clear hcz7_4
     try clear hfz4_0
     try clear hfz4_1
     try clear hfz4_2
     try clear hfz4_3
     try clear hfz4_4
     try clear hfz7_0
     try clear hfz7_1
     try clear hfz7_2
     try clear hfz7_3
     try clear hfz7_4
     try clear p2
     obtain ⟨x5_2, rfl, HA, HK2, BK170, HB⟩ := hrel
     cases gk with
     | zero => exact absurd HA.out (by simp [grapevineref06_can.l1])
     | succ k2 =>
      have H := HA.out
      clear HA
      simp only [grapevineref06_can.l1] at H
      by_cases c8 : 0 ≤ x4_1
      ·rw [if_pos c8] at H
       have c8b0 : decide (0 ≤ x4_1) = true := decide_eq_true c8
       clear c8
       by_cases c9 : x4_1 < (l0_4.length : Int)
       ·rw [if_pos c9] at H
        have c9b0 : decide (x4_1 < (l0_4.length : Int)) = true := decide_eq_true c9
        clear c9
        by_cases c10 : x5_2 < (wrap64 (((rdOf ByteArray.empty l0_4 x4_1).size : Int) - 1))
        ·rw [if_pos c10] at H
         have c10b0 : decide (x5_2 < (wrap64 (((rdOf ByteArray.empty l0_4 x4_1).size : Int) - 1))) = true := decide_eq_true c10
         clear c10
         by_cases c11 : 0 ≤ x5_2
         ·rw [if_pos c11] at H
          have c11b0 : decide (0 ≤ x5_2) = true := decide_eq_true c11
          clear c11
          by_cases c12 : x5_2 < ((rdOf ByteArray.empty l0_4 x4_1).size : Int)
          ·rw [if_pos c12] at H
           have c12b0 : decide (x5_2 < ((rdOf ByteArray.empty l0_4 x4_1).size : Int)) = true := decide_eq_true c12
           clear c12
           by_cases c14 : (bt (rdOf ByteArray.empty l0_4 x4_1) x5_2) = 10
           ·rw [if_pos c14] at H
            have c14b0 : ((bt (rdOf ByteArray.empty l0_4 x4_1) x5_2) == 10) = true := beq_iff_eq.mpr c14
            have c14b1 : ((bt (rdOf ByteArray.empty l0_4 x4_1) x5_2) != 10) = false := bne_eq_false_iff_eq.mpr c14
            clear c14
            obtain rfl := Option.some.inj H
            have hcz15_0 : wr.cell? ⟨gb170, 0, none⟩ = some (.int .i64 a0_0) := (blk_cell BK170.out 0).trans rfl
            have hcz15_1 : wr.cell? ⟨gb170, 1, none⟩ = some (.int .i64 a0_1) := (blk_cell BK170.out 1).trans rfl
            have hcz15_2 : wr.cell? ⟨gb170, 2, none⟩ = some (.int .i64 a0_2) := (blk_cell BK170.out 2).trans rfl
            have hcz15_3 : wr.cell? ⟨gb170, 3, none⟩ = some (.int .i64 a0_3) := (blk_cell BK170.out 3).trans rfl
            have hcz15_4 : wr.cell? ⟨gb170, 4, none⟩ = some (.slice A0_4 l0_4.length c0_4) := (blk_cell BK170.out 4).trans rfl
            have hfz15_0 := blk_frozen BK170.out 0
            have hfz15_1 := blk_frozen BK170.out 1
            have hfz15_2 := blk_frozen BK170.out 2
            have hfz15_3 := blk_frozen BK170.out 3
            have hfz15_4 := blk_frozen BK170.out 4
            have p172 : 0 ≤ (x4_1 : Int) := of_decide_eq_true (by first | (with_reducible assumption) | assumption)
            have q172 : x4_1 < (l0_4.length : Int) := of_decide_eq_true (by first | (with_reducible assumption) | assumption)
            obtain ⟨ad172, e172, hx172_0⟩ := Kd.at_string HR0_4.out x4_1 p172 q172
            cases e172
            replace hx172_0 := (HB.out.cell (World.block_lt_of_cell? w _ hx172_0)).trans hx172_0
            replace p172 := eq_true p172
            replace q172 := eq_true q172
            have p173 : 0 ≤ (x4_1 : Int) := of_decide_eq_true (by first | (with_reducible assumption) | assumption)
            have q173 : x4_1 < (l0_4.length : Int) := of_decide_eq_true (by first | (with_reducible assumption) | assumption)
            obtain ⟨ad173, e173, hx173_0⟩ := Kd.at_string HR0_4.out x4_1 p173 q173
            obtain rfl : ad172 = ad173 := (by injection e173)
            replace hx173_0 := (HB.out.cell (World.block_lt_of_cell? w _ hx173_0)).trans hx173_0
            replace p173 := eq_true p173
            replace q173 := eq_true q173
            have p13 : 0 ≤ (x5_2 : Int) := of_decide_eq_true (by first | (with_reducible assumption) | assumption)
            have q13 : x5_2 < ((rdOf ByteArray.empty l0_4 x4_1).size : Int) := of_decide_eq_true (by first | (with_reducible assumption) | assumption)
            have hx13 := bt_at (rdOf ByteArray.empty l0_4 x4_1) x5_2
            replace p13 := eq_true p13
            replace q13 := eq_true q13
            go_wp2
            go_ret
            exact ⟨by first | rfl | (simp [errW_none, errW_some] <;> rfl) | (simp [*, errW_none, errW_some] <;> rfl), by repeat (first | (with_reducible first | exact HB.out | apply below_alloc | apply pw_below_drewN | apply below_drew1 | refine below_set ?_ GE170.out) | exact HB.out)⟩
           ·rw [if_neg c14] at H
            have c14b0 : ((bt (rdOf ByteArray.empty l0_4 x4_1) x5_2) == 10) = false := beq_eq_false_iff_ne.mpr c14
            have c14b1 : ((bt (rdOf ByteArray.empty l0_4 x4_1) x5_2) != 10) = true := bne_iff_ne.mpr c14
            have H' := Aside0.mk H
            clear H
            have hcz16_0 : wr.cell? ⟨gb170, 0, none⟩ = some (.int .i64 a0_0) := (blk_cell BK170.out 0).trans rfl
            have hcz16_1 : wr.cell? ⟨gb170, 1, none⟩ = some (.int .i64 a0_1) := (blk_cell BK170.out 1).trans rfl
            have hcz16_2 : wr.cell? ⟨gb170, 2, none⟩ = some (.int .i64 a0_2) := (blk_cell BK170.out 2).trans rfl
            have hcz16_3 : wr.cell? ⟨gb170, 3, none⟩ = some (.int .i64 a0_3) := (blk_cell BK170.out 3).trans rfl
            have hcz16_4 : wr.cell? ⟨gb170, 4, none⟩ = some (.slice A0_4 l0_4.length c0_4) := (blk_cell BK170.out 4).trans rfl
            have hfz16_0 := blk_frozen BK170.out 0
            have hfz16_1 := blk_frozen BK170.out 1
            have hfz16_2 := blk_frozen BK170.out 2
            have hfz16_3 := blk_frozen BK170.out 3
            have hfz16_4 := blk_frozen BK170.out 4
            have p172 : 0 ≤ (x4_1 : Int) := of_decide_eq_true (by first | (with_reducible assumption) | assumption)
            have q172 : x4_1 < (l0_4.length : Int) := of_decide_eq_true (by first | (with_reducible assumption) | assumption)
            obtain ⟨ad172, e172, hx172_0⟩ := Kd.at_string HR0_4.out x4_1 p172 q172
            cases e172
            replace hx172_0 := (HB.out.cell (World.block_lt_of_cell? w _ hx172_0)).trans hx172_0
            replace p172 := eq_true p172
            replace q172 := eq_true q172
            have p173 : 0 ≤ (x4_1 : Int) := of_decide_eq_true (by first | (with_reducible assumption) | assumption)
            have q173 : x4_1 < (l0_4.length : Int) := of_decide_eq_true (by first | (with_reducible assumption) | assumption)
            obtain ⟨ad173, e173, hx173_0⟩ := Kd.at_string HR0_4.out x4_1 p173 q173
            obtain rfl : ad172 = ad173 := (by injection e173)
            replace hx173_0 := (HB.out.cell (World.block_lt_of_cell? w _ hx173_0)).trans hx173_0
            replace p173 := eq_true p173
            replace q173 := eq_true q173
            have p13 : 0 ≤ (x5_2 : Int) := of_decide_eq_true (by first | (with_reducible assumption) | assumption)
            have q13 : x5_2 < ((rdOf ByteArray.empty l0_4 x4_1).size : Int) := of_decide_eq_true (by first | (with_reducible assumption) | assumption)
            have hx13 := bt_at (rdOf ByteArray.empty l0_4 x4_1) x5_2
            replace p13 := eq_true p13
            replace q13 := eq_true q13
            go_wp2
            go_roundg k2
            case measure => have := HK1.out; have := HK2.out; omega
            case rel => exact ⟨(wrap64 (x5_2 + 1)), (by first | rfl | (simp; done) | (simp [*]; done)), H', ⟨by have := HK1.out; have := HK2.out; omega⟩, ⟨by (with_reducible repeat (first | refine blk_drewN ?_ _ | refine blk_drew ?_ | refine blk_alloc ?_ _)); exact BK170.out⟩, ⟨by repeat (first | (with_reducible first | exact HB.out | apply below_alloc | apply pw_below_drewN | apply below_drew1 | refine below_set ?_ GE170.out) | exact HB.out)⟩⟩
          ·rw [if_neg c12] at H
           exact absurd H (by simp)
         ·rw [if_neg c11] at H
          exact absurd H (by simp)
        ·rw [if_neg c10] at H
         have c10b0 : decide (x5_2 < (wrap64 (((rdOf ByteArray.empty l0_4 x4_1).size : Int) - 1))) = false := decide_eq_false c10
         clear c10
         have H' := Aside0.mk H
         clear H
         have hcz17_0 : wr.cell? ⟨gb170, 0, none⟩ = some (.int .i64 a0_0) := (blk_cell BK170.out 0).trans rfl
         have hcz17_1 : wr.cell? ⟨gb170, 1, none⟩ = some (.int .i64 a0_1) := (blk_cell BK170.out 1).trans rfl
         have hcz17_2 : wr.cell? ⟨gb170, 2, none⟩ = some (.int .i64 a0_2) := (blk_cell BK170.out 2).trans rfl
         have hcz17_3 : wr.cell? ⟨gb170, 3, none⟩ = some (.int .i64 a0_3) := (blk_cell BK170.out 3).trans rfl
         have hcz17_4 : wr.cell? ⟨gb170, 4, none⟩ = some (.slice A0_4 l0_4.length c0_4) := (blk_cell BK170.out 4).trans rfl
         have hfz17_0 := blk_frozen BK170.out 0
         have hfz17_1 := blk_frozen BK170.out 1
         have hfz17_2 := blk_frozen BK170.out 2
         have hfz17_3 := blk_frozen BK170.out 3
         have hfz17_4 := blk_frozen BK170.out 4
         have p172 : 0 ≤ (x4_1 : Int) := of_decide_eq_true (by first | (with_reducible assumption) | assumption)
         have q172 : x4_1 < (l0_4.length : Int) := of_decide_eq_true (by first | (with_reducible assumption) | assumption)
         obtain ⟨ad172, e172, hx172_0⟩ := Kd.at_string HR0_4.out x4_1 p172 q172
         cases e172
         replace hx172_0 := (HB.out.cell (World.block_lt_of_cell? w _ hx172_0)).trans hx172_0
         replace p172 := eq_true p172
         replace q172 := eq_true q172
         go_wp2
         go_roundg k2
         case measure => have := HK1.out; have := HK2.out; omega
         case rel => exact ⟨(wrap64 (x4_1 + 1)), (by first | rfl | (simp; done) | (simp [*]; done)), H', ⟨by have := HK1.out; have := HK2.out; omega⟩, ⟨by (with_reducible repeat (first | refine blk_drewN ?_ _ | refine blk_drew ?_ | refine blk_alloc ?_ _)); exact BK170.out⟩, ⟨by repeat (first | (with_reducible first | exact HB.out | apply below_alloc | apply pw_below_drewN | apply below_drew1 | refine below_set ?_ GE170.out) | exact HB.out)⟩⟩
       ·rw [if_neg c9] at H
        exact absurd H (by simp)
      ·rw [if_neg c8] at H
       exact absurd H (by simp)
   ·rw [if_neg c6] at H
    have c6b0 : decide (x4_1 < (l0_4.length : Int)) = false := decide_eq_false c6
    clear c6
    by_cases c18 : a0_0 > 2147483646
    ·rw [if_pos c18] at H
     have c18b0 : decide (2147483646 < a0_0) = true := decide_eq_true c18
     clear c18
     by_cases c19 : a0_1 > 0
     ·rw [if_pos c19] at H
      have c19b0 : decide (0 < a0_1) = true := decide_eq_true c19
      clear c19
      obtain rfl := Option.some.inj H
      have hcz20_0 : wr.cell? ⟨gb170, 0, none⟩ = some (.int .i64 a0_0) := (blk_cell BK170.out 0).trans rfl
      have hcz20_1 : wr.cell? ⟨gb170, 1, none⟩ = some (.int .i64 a0_1) := (blk_cell BK170.out 1).trans rfl
      have hcz20_2 : wr.cell? ⟨gb170, 2, none⟩ = some (.int .i64 a0_2) := (blk_cell BK170.out 2).trans rfl
      have hcz20_3 : wr.cell? ⟨gb170, 3, none⟩ = some (.int .i64 a0_3) := (blk_cell BK170.out 3).trans rfl
      have hcz20_4 : wr.cell? ⟨gb170, 4, none⟩ = some (.slice A0_4 l0_4.length c0_4) := (blk_cell BK170.out 4).trans rfl
      have hfz20_0 := blk_frozen BK170.out 0
      have hfz20_1 := blk_frozen BK170.out 1
      have hfz20_2 := blk_frozen BK170.out 2
      have hfz20_3 := blk_frozen BK170.out 3
      have hfz20_4 := blk_frozen BK170.out 4
      go_wp2
      go_ret
      exact ⟨by first | rfl | (simp [errW_none, errW_some] <;> rfl) | (simp [*, errW_none, errW_some] <;> rfl), by repeat (first | (with_reducible first | exact HB.out | apply below_alloc | apply pw_below_drewN | apply below_drew1 | refine below_set ?_ GE170.out) | exact HB.out)⟩
     ·rw [if_neg c19] at H
      have c19b0 : decide (0 < a0_1) = false := decide_eq_false c19
      clear c19
      by_cases c21 : a0_2 > 2147483646
      ·rw [if_pos c21] at H
       have c21b0 : decide (2147483646 < a0_2) = true := decide_eq_true c21
       clear c21
       by_cases c22 : a0_3 > 0
       ·rw [if_pos c22] at H
        have c22b0 : decide (0 < a0_3) = true := decide_eq_true c22
        clear c22
        obtain rfl := Option.some.inj H
        have hcz23_0 : wr.cell? ⟨gb170, 0, none⟩ = some (.int .i64 a0_0) := (blk_cell BK170.out 0).trans rfl
        have hcz23_1 : wr.cell? ⟨gb170, 1, none⟩ = some (.int .i64 a0_1) := (blk_cell BK170.out 1).trans rfl
        have hcz23_2 : wr.cell? ⟨gb170, 2, none⟩ = some (.int .i64 a0_2) := (blk_cell BK170.out 2).trans rfl
        have hcz23_3 : wr.cell? ⟨gb170, 3, none⟩ = some (.int .i64 a0_3) := (blk_cell BK170.out 3).trans rfl
        have hcz23_4 : wr.cell? ⟨gb170, 4, none⟩ = some (.slice A0_4 l0_4.length c0_4) := (blk_cell BK170.out 4).trans rfl
        have hfz23_0 := blk_frozen BK170.out 0
        have hfz23_1 := blk_frozen BK170.out 1
        have hfz23_2 := blk_frozen BK170.out 2
        have hfz23_3 := blk_frozen BK170.out 3
        have hfz23_4 := blk_frozen BK170.out 4
        go_wp2
        go_ret
        exact ⟨by first | rfl | (simp [errW_none, errW_some] <;> rfl) | (simp [*, errW_none, errW_some] <;> rfl), by repeat (first | (with_reducible first | exact HB.out | apply below_alloc | apply pw_below_drewN | apply below_drew1 | refine below_set ?_ GE170.out) | exact HB.out)⟩
       ·rw [if_neg c22] at H
        have c22b0 : decide (0 < a0_3) = false := decide_eq_false c22
        clear c22
        by_cases c24 : t171 = true
        ·subst c24
         have H1 : (if a0_0 < 2147483648 then (if a0_1 < 2147483648 then (if a0_2 < 2147483648 then (some (decide (a0_3 < 2147483648))) else (some false)) else (some false)) else (some false)) = some r := by rw [if_pos rfl] at H; exact H
         clear H
         have H := H1
         clear H1
         by_cases c25 : a0_0 < 2147483648
         ·rw [if_pos c25] at H
          have c25b0 : decide (a0_0 < 2147483648) = true := decide_eq_true c25
          clear c25
          by_cases c26 : a0_1 < 2147483648
          ·rw [if_pos c26] at H
           have c26b0 : decide (a0_1 < 2147483648) = true := decide_eq_true c26
           clear c26
           by_cases c27 : a0_2 < 2147483648
           ·rw [if_pos c27] at H
            have c27b0 : decide (a0_2 < 2147483648) = true := decide_eq_true c27
            clear c27
            obtain rfl := Option.some.inj H
            have hcz28_0 : wr.cell? ⟨gb170, 0, none⟩ = some (.int .i64 a0_0) := (blk_cell BK170.out 0).trans rfl
            have hcz28_1 : wr.cell? ⟨gb170, 1, none⟩ = some (.int .i64 a0_1) := (blk_cell BK170.out 1).trans rfl
            have hcz28_2 : wr.cell? ⟨gb170, 2, none⟩ = some (.int .i64 a0_2) := (blk_cell BK170.out 2).trans rfl
            have hcz28_3 : wr.cell? ⟨gb170, 3, none⟩ = some (.int .i64 a0_3) := (blk_cell BK170.out 3).trans rfl
            have hcz28_4 : wr.cell? ⟨gb170, 4, none⟩ = some (.slice A0_4 l0_4.length c0_4) := (blk_cell BK170.out 4).trans rfl
            have hfz28_0 := blk_frozen BK170.out 0
            have hfz28_1 := blk_frozen BK170.out 1
            have hfz28_2 := blk_frozen BK170.out 2
            have hfz28_3 := blk_frozen BK170.out 3
            have hfz28_4 := blk_frozen BK170.out 4
            go_wp2
            go_ret
            exact ⟨by first | rfl | (simp [errW_none, errW_some] <;> rfl) | (simp [*, errW_none, errW_some] <;> rfl), by repeat (first | (with_reducible first | exact HB.out | apply below_alloc | apply pw_below_drewN | apply below_drew1 | refine below_set ?_ GE170.out) | exact HB.out)⟩
           ·rw [if_neg c27] at H
            have c27b0 : decide (a0_2 < 2147483648) = false := decide_eq_false c27
            clear c27
            obtain rfl := Option.some.inj H
            have hcz29_0 : wr.cell? ⟨gb170, 0, none⟩ = some (.int .i64 a0_0) := (blk_cell BK170.out 0).trans rfl
            have hcz29_1 : wr.cell? ⟨gb170, 1, none⟩ = some (.int .i64 a0_1) := (blk_cell BK170.out 1).trans rfl
            have hcz29_2 : wr.cell? ⟨gb170, 2, none⟩ = some (.int .i64 a0_2) := (blk_cell BK170.out 2).trans rfl
            have hcz29_3 : wr.cell? ⟨gb170, 3, none⟩ = some (.int .i64 a0_3) := (blk_cell BK170.out 3).trans rfl
            have hcz29_4 : wr.cell? ⟨gb170, 4, none⟩ = some (.slice A0_4 l0_4.length c0_4) := (blk_cell BK170.out 4).trans rfl
            have hfz29_0 := blk_frozen BK170.out 0
            have hfz29_1 := blk_frozen BK170.out 1
            have hfz29_2 := blk_frozen BK170.out 2
            have hfz29_3 := blk_frozen BK170.out 3
            have hfz29_4 := blk_frozen BK170.out 4
            go_wp2
            go_ret
            exact ⟨by first | rfl | (simp [errW_none, errW_some] <;> rfl) | (simp [*, errW_none, errW_some] <;> rfl), by repeat (first | (with_reducible first | exact HB.out | apply below_alloc | apply pw_below_drewN | apply below_drew1 | refine below_set ?_ GE170.out) | exact HB.out)⟩
          ·rw [if_neg c26] at H
           have c26b0 : decide (a0_1 < 2147483648) = false := decide_eq_false c26
           clear c26
           obtain rfl := Option.some.inj H
           have hcz30_0 : wr.cell? ⟨gb170, 0, none⟩ = some (.int .i64 a0_0) := (blk_cell BK170.out 0).trans rfl
           have hcz30_1 : wr.cell? ⟨gb170, 1, none⟩ = some (.int .i64 a0_1) := (blk_cell BK170.out 1).trans rfl
           have hcz30_2 : wr.cell? ⟨gb170, 2, none⟩ = some (.int .i64 a0_2) := (blk_cell BK170.out 2).trans rfl
           have hcz30_3 : wr.cell? ⟨gb170, 3, none⟩ = some (.int .i64 a0_3) := (blk_cell BK170.out 3).trans rfl
           have hcz30_4 : wr.cell? ⟨gb170, 4, none⟩ = some (.slice A0_4 l0_4.length c0_4) := (blk_cell BK170.out 4).trans rfl
           have hfz30_0 := blk_frozen BK170.out 0
           have hfz30_1 := blk_frozen BK170.out 1
           have hfz30_2 := blk_frozen BK170.out 2
           have hfz30_3 := blk_frozen BK170.out 3
           have hfz30_4 := blk_frozen BK170.out 4
           go_wp2
           go_ret
           exact ⟨by first | rfl | (simp [errW_none, errW_some] <;> rfl) | (simp [*, errW_none, errW_some] <;> rfl), by repeat (first | (with_reducible first | exact HB.out | apply below_alloc | apply pw_below_drewN | apply below_drew1 | refine below_set ?_ GE170.out) | exact HB.out)⟩
         ·rw [if_neg c25] at H
          have c25b0 : decide (a0_0 < 2147483648) = false := decide_eq_false c25
          clear c25
          obtain rfl := Option.some.inj H
          have hcz31_0 : wr.cell? ⟨gb170, 0, none⟩ = some (.int .i64 a0_0) := (blk_cell BK170.out 0).trans rfl
          have hcz31_1 : wr.cell? ⟨gb170, 1, none⟩ = some (.int .i64 a0_1) := (blk_cell BK170.out 1).trans rfl
          have hcz31_2 : wr.cell? ⟨gb170, 2, none⟩ = some (.int .i64 a0_2) := (blk_cell BK170.out 2).trans rfl
          have hcz31_3 : wr.cell? ⟨gb170, 3, none⟩ = some (.int .i64 a0_3) := (blk_cell BK170.out 3).trans rfl
          have hcz31_4 : wr.cell? ⟨gb170, 4, none⟩ = some (.slice A0_4 l0_4.length c0_4) := (blk_cell BK170.out 4).trans rfl
          have hfz31_0 := blk_frozen BK170.out 0
          have hfz31_1 := blk_frozen BK170.out 1
          have hfz31_2 := blk_frozen BK170.out 2
          have hfz31_3 := blk_frozen BK170.out 3
          have hfz31_4 := blk_frozen BK170.out 4
          go_wp2
          go_ret
          exact ⟨by first | rfl | (simp [errW_none, errW_some] <;> rfl) | (simp [*, errW_none, errW_some] <;> rfl), by repeat (first | (with_reducible first | exact HB.out | apply below_alloc | apply pw_below_drewN | apply below_drew1 | refine below_set ?_ GE170.out) | exact HB.out)⟩
        ·replace c24 := Bool.eq_false_iff.mpr c24
         subst c24
         have H1 : (some false) = some r := by rw [if_neg (show ¬ (false = true) by decide)] at H; exact H
         clear H
         have H := H1
         clear H1
         obtain rfl := Option.some.inj H
         have hcz32_0 : wr.cell? ⟨gb170, 0, none⟩ = some (.int .i64 a0_0) := (blk_cell BK170.out 0).trans rfl
         have hcz32_1 : wr.cell? ⟨gb170, 1, none⟩ = some (.int .i64 a0_1) := (blk_cell BK170.out 1).trans rfl
         have hcz32_2 : wr.cell? ⟨gb170, 2, none⟩ = some (.int .i64 a0_2) := (blk_cell BK170.out 2).trans rfl
         have hcz32_3 : wr.cell? ⟨gb170, 3, none⟩ = some (.int .i64 a0_3) := (blk_cell BK170.out 3).trans rfl
         have hcz32_4 : wr.cell? ⟨gb170, 4, none⟩ = some (.slice A0_4 l0_4.length c0_4) := (blk_cell BK170.out 4).trans rfl
         have hfz32_0 := blk_frozen BK170.out 0
         have hfz32_1 := blk_frozen BK170.out 1
         have hfz32_2 := blk_frozen BK170.out 2
         have hfz32_3 := blk_frozen BK170.out 3
         have hfz32_4 := blk_frozen BK170.out 4
         go_wp2
         go_ret
         exact ⟨by first | rfl | (simp [errW_none, errW_some] <;> rfl) | (simp [*, errW_none, errW_some] <;> rfl), by repeat (first | (with_reducible first | exact HB.out | apply below_alloc | apply pw_below_drewN | apply below_drew1 | refine below_set ?_ GE170.out) | exact HB.out)⟩
      ·rw [if_neg c21] at H
       have c21b0 : decide (2147483646 < a0_2) = false := decide_eq_false c21
       clear c21
       by_cases c33 : t171 = true
       ·subst c33
        have H1 : (if a0_0 < 2147483648 then (if a0_1 < 2147483648 then (if a0_2 < 2147483648 then (some (decide (a0_3 < 2147483648))) else (some false)) else (some false)) else (some false)) = some r := by rw [if_pos rfl] at H; exact H
        clear H
        have H := H1
        clear H1
        by_cases c34 : a0_0 < 2147483648
        ·rw [if_pos c34] at H
         have c34b0 : decide (a0_0 < 2147483648) = true := decide_eq_true c34
         clear c34
         by_cases c35 : a0_1 < 2147483648
         ·rw [if_pos c35] at H
          have c35b0 : decide (a0_1 < 2147483648) = true := decide_eq_true c35
          clear c35
          by_cases c36 : a0_2 < 2147483648
          ·rw [if_pos c36] at H
           have c36b0 : decide (a0_2 < 2147483648) = true := decide_eq_true c36
           clear c36
           obtain rfl := Option.some.inj H
           have hcz37_0 : wr.cell? ⟨gb170, 0, none⟩ = some (.int .i64 a0_0) := (blk_cell BK170.out 0).trans rfl
           have hcz37_1 : wr.cell? ⟨gb170, 1, none⟩ = some (.int .i64 a0_1) := (blk_cell BK170.out 1).trans rfl
           have hcz37_2 : wr.cell? ⟨gb170, 2, none⟩ = some (.int .i64 a0_2) := (blk_cell BK170.out 2).trans rfl
           have hcz37_3 : wr.cell? ⟨gb170, 3, none⟩ = some (.int .i64 a0_3) := (blk_cell BK170.out 3).trans rfl
           have hcz37_4 : wr.cell? ⟨gb170, 4, none⟩ = some (.slice A0_4 l0_4.length c0_4) := (blk_cell BK170.out 4).trans rfl
           have hfz37_0 := blk_frozen BK170.out 0
           have hfz37_1 := blk_frozen BK170.out 1
           have hfz37_2 := blk_frozen BK170.out 2
           have hfz37_3 := blk_frozen BK170.out 3
           have hfz37_4 := blk_frozen BK170.out 4
           go_wp2
           go_ret
           exact ⟨by first | rfl | (simp [errW_none, errW_some] <;> rfl) | (simp [*, errW_none, errW_some] <;> rfl), by repeat (first | (with_reducible first | exact HB.out | apply below_alloc | apply pw_below_drewN | apply below_drew1 | refine below_set ?_ GE170.out) | exact HB.out)⟩
          ·rw [if_neg c36] at H
           have c36b0 : decide (a0_2 < 2147483648) = false := decide_eq_false c36
           clear c36
           obtain rfl := Option.some.inj H
           have hcz38_0 : wr.cell? ⟨gb170, 0, none⟩ = some (.int .i64 a0_0) := (blk_cell BK170.out 0).trans rfl
           have hcz38_1 : wr.cell? ⟨gb170, 1, none⟩ = some (.int .i64 a0_1) := (blk_cell BK170.out 1).trans rfl
           have hcz38_2 : wr.cell? ⟨gb170, 2, none⟩ = some (.int .i64 a0_2) := (blk_cell BK170.out 2).trans rfl
           have hcz38_3 : wr.cell? ⟨gb170, 3, none⟩ = some (.int .i64 a0_3) := (blk_cell BK170.out 3).trans rfl
           have hcz38_4 : wr.cell? ⟨gb170, 4, none⟩ = some (.slice A0_4 l0_4.length c0_4) := (blk_cell BK170.out 4).trans rfl
           have hfz38_0 := blk_frozen BK170.out 0
           have hfz38_1 := blk_frozen BK170.out 1
           have hfz38_2 := blk_frozen BK170.out 2
           have hfz38_3 := blk_frozen BK170.out 3
           have hfz38_4 := blk_frozen BK170.out 4
           go_wp2
           go_ret
           exact ⟨by first | rfl | (simp [errW_none, errW_some] <;> rfl) | (simp [*, errW_none, errW_some] <;> rfl), by repeat (first | (with_reducible first | exact HB.out | apply below_alloc | apply pw_below_drewN | apply below_drew1 | refine below_set ?_ GE170.out) | exact HB.out)⟩
         ·rw [if_neg c35] at H
          have c35b0 : decide (a0_1 < 2147483648) = false := decide_eq_false c35
          clear c35
          obtain rfl := Option.some.inj H
          have hcz39_0 : wr.cell? ⟨gb170, 0, none⟩ = some (.int .i64 a0_0) := (blk_cell BK170.out 0).trans rfl
          have hcz39_1 : wr.cell? ⟨gb170, 1, none⟩ = some (.int .i64 a0_1) := (blk_cell BK170.out 1).trans rfl
          have hcz39_2 : wr.cell? ⟨gb170, 2, none⟩ = some (.int .i64 a0_2) := (blk_cell BK170.out 2).trans rfl
          have hcz39_3 : wr.cell? ⟨gb170, 3, none⟩ = some (.int .i64 a0_3) := (blk_cell BK170.out 3).trans rfl
          have hcz39_4 : wr.cell? ⟨gb170, 4, none⟩ = some (.slice A0_4 l0_4.length c0_4) := (blk_cell BK170.out 4).trans rfl
          have hfz39_0 := blk_frozen BK170.out 0
          have hfz39_1 := blk_frozen BK170.out 1
          have hfz39_2 := blk_frozen BK170.out 2
          have hfz39_3 := blk_frozen BK170.out 3
          have hfz39_4 := blk_frozen BK170.out 4
          go_wp2
          go_ret
          exact ⟨by first | rfl | (simp [errW_none, errW_some] <;> rfl) | (simp [*, errW_none, errW_some] <;> rfl), by repeat (first | (with_reducible first | exact HB.out | apply below_alloc | apply pw_below_drewN | apply below_drew1 | refine below_set ?_ GE170.out) | exact HB.out)⟩
        ·rw [if_neg c34] at H
         have c34b0 : decide (a0_0 < 2147483648) = false := decide_eq_false c34
         clear c34
         obtain rfl := Option.some.inj H
         have hcz40_0 : wr.cell? ⟨gb170, 0, none⟩ = some (.int .i64 a0_0) := (blk_cell BK170.out 0).trans rfl
         have hcz40_1 : wr.cell? ⟨gb170, 1, none⟩ = some (.int .i64 a0_1) := (blk_cell BK170.out 1).trans rfl
         have hcz40_2 : wr.cell? ⟨gb170, 2, none⟩ = some (.int .i64 a0_2) := (blk_cell BK170.out 2).trans rfl
         have hcz40_3 : wr.cell? ⟨gb170, 3, none⟩ = some (.int .i64 a0_3) := (blk_cell BK170.out 3).trans rfl
         have hcz40_4 : wr.cell? ⟨gb170, 4, none⟩ = some (.slice A0_4 l0_4.length c0_4) := (blk_cell BK170.out 4).trans rfl
         have hfz40_0 := blk_frozen BK170.out 0
         have hfz40_1 := blk_frozen BK170.out 1
         have hfz40_2 := blk_frozen BK170.out 2
         have hfz40_3 := blk_frozen BK170.out 3
         have hfz40_4 := blk_frozen BK170.out 4
         go_wp2
         go_ret
         exact ⟨by first | rfl | (simp [errW_none, errW_some] <;> rfl) | (simp [*, errW_none, errW_some] <;> rfl), by repeat (first | (with_reducible first | exact HB.out | apply below_alloc | apply pw_below_drewN | apply below_drew1 | refine below_set ?_ GE170.out) | exact HB.out)⟩
       ·replace c33 := Bool.eq_false_iff.mpr c33
        subst c33
        have H1 : (some false) = some r := by rw [if_neg (show ¬ (false = true) by decide)] at H; exact H
        clear H
        have H := H1
        clear H1
        obtain rfl := Option.some.inj H
        have hcz41_0 : wr.cell? ⟨gb170, 0, none⟩ = some (.int .i64 a0_0) := (blk_cell BK170.out 0).trans rfl
        have hcz41_1 : wr.cell? ⟨gb170, 1, none⟩ = some (.int .i64 a0_1) := (blk_cell BK170.out 1).trans rfl
        have hcz41_2 : wr.cell? ⟨gb170, 2, none⟩ = some (.int .i64 a0_2) := (blk_cell BK170.out 2).trans rfl
        have hcz41_3 : wr.cell? ⟨gb170, 3, none⟩ = some (.int .i64 a0_3) := (blk_cell BK170.out 3).trans rfl
        have hcz41_4 : wr.cell? ⟨gb170, 4, none⟩ = some (.slice A0_4 l0_4.length c0_4) := (blk_cell BK170.out 4).trans rfl
        have hfz41_0 := blk_frozen BK170.out 0
        have hfz41_1 := blk_frozen BK170.out 1
        have hfz41_2 := blk_frozen BK170.out 2
        have hfz41_3 := blk_frozen BK170.out 3
        have hfz41_4 := blk_frozen BK170.out 4
        go_wp2
        go_ret
        exact ⟨by first | rfl | (simp [errW_none, errW_some] <;> rfl) | (simp [*, errW_none, errW_some] <;> rfl), by repeat (first | (with_reducible first | exact HB.out | apply below_alloc | apply pw_below_drewN | apply below_drew1 | refine below_set ?_ GE170.out) | exact HB.out)⟩
    ·rw [if_neg c18] at H
     have c18b0 : decide (2147483646 < a0_0) = false := decide_eq_false c18
     clear c18
     by_cases c42 : a0_2 > 2147483646
     ·rw [if_pos c42] at H
      have c42b0 : decide (2147483646 < a0_2) = true := decide_eq_true c42
      clear c42
      by_cases c43 : a0_3 > 0
      ·rw [if_pos c43] at H
       have c43b0 : decide (0 < a0_3) = true := decide_eq_true c43
       clear c43
       obtain rfl := Option.some.inj H
       have hcz44_0 : wr.cell? ⟨gb170, 0, none⟩ = some (.int .i64 a0_0) := (blk_cell BK170.out 0).trans rfl
       have hcz44_1 : wr.cell? ⟨gb170, 1, none⟩ = some (.int .i64 a0_1) := (blk_cell BK170.out 1).trans rfl
       have hcz44_2 : wr.cell? ⟨gb170, 2, none⟩ = some (.int .i64 a0_2) := (blk_cell BK170.out 2).trans rfl
       have hcz44_3 : wr.cell? ⟨gb170, 3, none⟩ = some (.int .i64 a0_3) := (blk_cell BK170.out 3).trans rfl
       have hcz44_4 : wr.cell? ⟨gb170, 4, none⟩ = some (.slice A0_4 l0_4.length c0_4) := (blk_cell BK170.out 4).trans rfl
       have hfz44_0 := blk_frozen BK170.out 0
       have hfz44_1 := blk_frozen BK170.out 1
       have hfz44_2 := blk_frozen BK170.out 2
       have hfz44_3 := blk_frozen BK170.out 3
       have hfz44_4 := blk_frozen BK170.out 4
       go_wp2
       go_ret
       exact ⟨by first | rfl | (simp [errW_none, errW_some] <;> rfl) | (simp [*, errW_none, errW_some] <;> rfl), by repeat (first | (with_reducible first | exact HB.out | apply below_alloc | apply pw_below_drewN | apply below_drew1 | refine below_set ?_ GE170.out) | exact HB.out)⟩
      ·rw [if_neg c43] at H
       have c43b0 : decide (0 < a0_3) = false := decide_eq_false c43
       clear c43
       by_cases c45 : t171 = true
       ·subst c45
        have H1 : (if a0_0 < 2147483648 then (if a0_1 < 2147483648 then (if a0_2 < 2147483648 then (some (decide (a0_3 < 2147483648))) else (some false)) else (some false)) else (some false)) = some r := by rw [if_pos rfl] at H; exact H
        clear H
        have H := H1
        clear H1
        by_cases c46 : a0_0 < 2147483648
        ·rw [if_pos c46] at H
         have c46b0 : decide (a0_0 < 2147483648) = true := decide_eq_true c46
         clear c46
         by_cases c47 : a0_1 < 2147483648
         ·rw [if_pos c47] at H
          have c47b0 : decide (a0_1 < 2147483648) = true := decide_eq_true c47
          clear c47
          by_cases c48 : a0_2 < 2147483648
          ·rw [if_pos c48] at H
           have c48b0 : decide (a0_2 < 2147483648) = true := decide_eq_true c48
           clear c48
           obtain rfl := Option.some.inj H
           have hcz49_0 : wr.cell? ⟨gb170, 0, none⟩ = some (.int .i64 a0_0) := (blk_cell BK170.out 0).trans rfl
           have hcz49_1 : wr.cell? ⟨gb170, 1, none⟩ = some (.int .i64 a0_1) := (blk_cell BK170.out 1).trans rfl
           have hcz49_2 : wr.cell? ⟨gb170, 2, none⟩ = some (.int .i64 a0_2) := (blk_cell BK170.out 2).trans rfl
           have hcz49_3 : wr.cell? ⟨gb170, 3, none⟩ = some (.int .i64 a0_3) := (blk_cell BK170.out 3).trans rfl
           have hcz49_4 : wr.cell? ⟨gb170, 4, none⟩ = some (.slice A0_4 l0_4.length c0_4) := (blk_cell BK170.out 4).trans rfl
           have hfz49_0 := blk_frozen BK170.out 0
           have hfz49_1 := blk_frozen BK170.out 1
           have hfz49_2 := blk_frozen BK170.out 2
           have hfz49_3 := blk_frozen BK170.out 3
           have hfz49_4 := blk_frozen BK170.out 4
           go_wp2
           go_ret
           exact ⟨by first | rfl | (simp [errW_none, errW_some] <;> rfl) | (simp [*, errW_none, errW_some] <;> rfl), by repeat (first | (with_reducible first | exact HB.out | apply below_alloc | apply pw_below_drewN | apply below_drew1 | refine below_set ?_ GE170.out) | exact HB.out)⟩
          ·rw [if_neg c48] at H
           have c48b0 : decide (a0_2 < 2147483648) = false := decide_eq_false c48
           clear c48
           obtain rfl := Option.some.inj H
           have hcz50_0 : wr.cell? ⟨gb170, 0, none⟩ = some (.int .i64 a0_0) := (blk_cell BK170.out 0).trans rfl
           have hcz50_1 : wr.cell? ⟨gb170, 1, none⟩ = some (.int .i64 a0_1) := (blk_cell BK170.out 1).trans rfl
           have hcz50_2 : wr.cell? ⟨gb170, 2, none⟩ = some (.int .i64 a0_2) := (blk_cell BK170.out 2).trans rfl
           have hcz50_3 : wr.cell? ⟨gb170, 3, none⟩ = some (.int .i64 a0_3) := (blk_cell BK170.out 3).trans rfl
           have hcz50_4 : wr.cell? ⟨gb170, 4, none⟩ = some (.slice A0_4 l0_4.length c0_4) := (blk_cell BK170.out 4).trans rfl
           have hfz50_0 := blk_frozen BK170.out 0
           have hfz50_1 := blk_frozen BK170.out 1
           have hfz50_2 := blk_frozen BK170.out 2
           have hfz50_3 := blk_frozen BK170.out 3
           have hfz50_4 := blk_frozen BK170.out 4
           go_wp2
           go_ret
           exact ⟨by first | rfl | (simp [errW_none, errW_some] <;> rfl) | (simp [*, errW_none, errW_some] <;> rfl), by repeat (first | (with_reducible first | exact HB.out | apply below_alloc | apply pw_below_drewN | apply below_drew1 | refine below_set ?_ GE170.out) | exact HB.out)⟩
         ·rw [if_neg c47] at H
          have c47b0 : decide (a0_1 < 2147483648) = false := decide_eq_false c47
          clear c47
          obtain rfl := Option.some.inj H
          have hcz51_0 : wr.cell? ⟨gb170, 0, none⟩ = some (.int .i64 a0_0) := (blk_cell BK170.out 0).trans rfl
          have hcz51_1 : wr.cell? ⟨gb170, 1, none⟩ = some (.int .i64 a0_1) := (blk_cell BK170.out 1).trans rfl
          have hcz51_2 : wr.cell? ⟨gb170, 2, none⟩ = some (.int .i64 a0_2) := (blk_cell BK170.out 2).trans rfl
          have hcz51_3 : wr.cell? ⟨gb170, 3, none⟩ = some (.int .i64 a0_3) := (blk_cell BK170.out 3).trans rfl
          have hcz51_4 : wr.cell? ⟨gb170, 4, none⟩ = some (.slice A0_4 l0_4.length c0_4) := (blk_cell BK170.out 4).trans rfl
          have hfz51_0 := blk_frozen BK170.out 0
          have hfz51_1 := blk_frozen BK170.out 1
          have hfz51_2 := blk_frozen BK170.out 2
          have hfz51_3 := blk_frozen BK170.out 3
          have hfz51_4 := blk_frozen BK170.out 4
          go_wp2
          go_ret
          exact ⟨by first | rfl | (simp [errW_none, errW_some] <;> rfl) | (simp [*, errW_none, errW_some] <;> rfl), by repeat (first | (with_reducible first | exact HB.out | apply below_alloc | apply pw_below_drewN | apply below_drew1 | refine below_set ?_ GE170.out) | exact HB.out)⟩
        ·rw [if_neg c46] at H
         have c46b0 : decide (a0_0 < 2147483648) = false := decide_eq_false c46
         clear c46
         obtain rfl := Option.some.inj H
         have hcz52_0 : wr.cell? ⟨gb170, 0, none⟩ = some (.int .i64 a0_0) := (blk_cell BK170.out 0).trans rfl
         have hcz52_1 : wr.cell? ⟨gb170, 1, none⟩ = some (.int .i64 a0_1) := (blk_cell BK170.out 1).trans rfl
         have hcz52_2 : wr.cell? ⟨gb170, 2, none⟩ = some (.int .i64 a0_2) := (blk_cell BK170.out 2).trans rfl
         have hcz52_3 : wr.cell? ⟨gb170, 3, none⟩ = some (.int .i64 a0_3) := (blk_cell BK170.out 3).trans rfl
         have hcz52_4 : wr.cell? ⟨gb170, 4, none⟩ = some (.slice A0_4 l0_4.length c0_4) := (blk_cell BK170.out 4).trans rfl
         have hfz52_0 := blk_frozen BK170.out 0
         have hfz52_1 := blk_frozen BK170.out 1
         have hfz52_2 := blk_frozen BK170.out 2
         have hfz52_3 := blk_frozen BK170.out 3
         have hfz52_4 := blk_frozen BK170.out 4
         go_wp2
         go_ret
         exact ⟨by first | rfl | (simp [errW_none, errW_some] <;> rfl) | (simp [*, errW_none, errW_some] <;> rfl), by repeat (first | (with_reducible first | exact HB.out | apply below_alloc | apply pw_below_drewN | apply below_drew1 | refine below_set ?_ GE170.out) | exact HB.out)⟩
       ·replace c45 := Bool.eq_false_iff.mpr c45
        subst c45
        have H1 : (some false) = some r := by rw [if_neg (show ¬ (false = true) by decide)] at H; exact H
        clear H
        have H := H1
        clear H1
        obtain rfl := Option.some.inj H
        have hcz53_0 : wr.cell? ⟨gb170, 0, none⟩ = some (.int .i64 a0_0) := (blk_cell BK170.out 0).trans rfl
        have hcz53_1 : wr.cell? ⟨gb170, 1, none⟩ = some (.int .i64 a0_1) := (blk_cell BK170.out 1).trans rfl
        have hcz53_2 : wr.cell? ⟨gb170, 2, none⟩ = some (.int .i64 a0_2) := (blk_cell BK170.out 2).trans rfl
        have hcz53_3 : wr.cell? ⟨gb170, 3, none⟩ = some (.int .i64 a0_3) := (blk_cell BK170.out 3).trans rfl
        have hcz53_4 : wr.cell? ⟨gb170, 4, none⟩ = some (.slice A0_4 l0_4.length c0_4) := (blk_cell BK170.out 4).trans rfl
        have hfz53_0 := blk_frozen BK170.out 0
        have hfz53_1 := blk_frozen BK170.out 1
        have hfz53_2 := blk_frozen BK170.out 2
        have hfz53_3 := blk_frozen BK170.out 3
        have hfz53_4 := blk_frozen BK170.out 4
        go_wp2
        go_ret
        exact ⟨by first | rfl | (simp [errW_none, errW_some] <;> rfl) | (simp [*, errW_none, errW_some] <;> rfl), by repeat (first | (with_reducible first | exact HB.out | apply below_alloc | apply pw_below_drewN | apply below_drew1 | refine below_set ?_ GE170.out) | exact HB.out)⟩
     ·rw [if_neg c42] at H
      have c42b0 : decide (2147483646 < a0_2) = false := decide_eq_false c42
      clear c42
      by_cases c54 : t171 = true
      ·subst c54
       have H1 : (if a0_0 < 2147483648 then (if a0_1 < 2147483648 then (if a0_2 < 2147483648 then (some (decide (a0_3 < 2147483648))) else (some false)) else (some false)) else (some false)) = some r := by rw [if_pos rfl] at H; exact H
       clear H
       have H := H1
       clear H1
       by_cases c55 : a0_0 < 2147483648
       ·rw [if_pos c55] at H
        have c55b0 : decide (a0_0 < 2147483648) = true := decide_eq_true c55
        clear c55
        by_cases c56 : a0_1 < 2147483648
        ·rw [if_pos c56] at H
         have c56b0 : decide (a0_1 < 2147483648) = true := decide_eq_true c56
         clear c56
         by_cases c57 : a0_2 < 2147483648
         ·rw [if_pos c57] at H
          have c57b0 : decide (a0_2 < 2147483648) = true := decide_eq_true c57
          clear c57
          obtain rfl := Option.some.inj H
          have hcz58_0 : wr.cell? ⟨gb170, 0, none⟩ = some (.int .i64 a0_0) := (blk_cell BK170.out 0).trans rfl
          have hcz58_1 : wr.cell? ⟨gb170, 1, none⟩ = some (.int .i64 a0_1) := (blk_cell BK170.out 1).trans rfl
          have hcz58_2 : wr.cell? ⟨gb170, 2, none⟩ = some (.int .i64 a0_2) := (blk_cell BK170.out 2).trans rfl
          have hcz58_3 : wr.cell? ⟨gb170, 3, none⟩ = some (.int .i64 a0_3) := (blk_cell BK170.out 3).trans rfl
          have hcz58_4 : wr.cell? ⟨gb170, 4, none⟩ = some (.slice A0_4 l0_4.length c0_4) := (blk_cell BK170.out 4).trans rfl
          have hfz58_0 := blk_frozen BK170.out 0
          have hfz58_1 := blk_frozen BK170.out 1
          have hfz58_2 := blk_frozen BK170.out 2
          have hfz58_3 := blk_frozen BK170.out 3
          have hfz58_4 := blk_frozen BK170.out 4
          go_wp2
          go_ret
          exact ⟨by first | rfl | (simp [errW_none, errW_some] <;> rfl) | (simp [*, errW_none, errW_some] <;> rfl), by repeat (first | (with_reducible first | exact HB.out | apply below_alloc | apply pw_below_drewN | apply below_drew1 | refine below_set ?_ GE170.out) | exact HB.out)⟩
         ·rw [if_neg c57] at H
          have c57b0 : decide (a0_2 < 2147483648) = false := decide_eq_false c57
          clear c57
          obtain rfl := Option.some.inj H
          have hcz59_0 : wr.cell? ⟨gb170, 0, none⟩ = some (.int .i64 a0_0) := (blk_cell BK170.out 0).trans rfl
          have hcz59_1 : wr.cell? ⟨gb170, 1, none⟩ = some (.int .i64 a0_1) := (blk_cell BK170.out 1).trans rfl
          have hcz59_2 : wr.cell? ⟨gb170, 2, none⟩ = some (.int .i64 a0_2) := (blk_cell BK170.out 2).trans rfl
          have hcz59_3 : wr.cell? ⟨gb170, 3, none⟩ = some (.int .i64 a0_3) := (blk_cell BK170.out 3).trans rfl
          have hcz59_4 : wr.cell? ⟨gb170, 4, none⟩ = some (.slice A0_4 l0_4.length c0_4) := (blk_cell BK170.out 4).trans rfl
          have hfz59_0 := blk_frozen BK170.out 0
          have hfz59_1 := blk_frozen BK170.out 1
          have hfz59_2 := blk_frozen BK170.out 2
          have hfz59_3 := blk_frozen BK170.out 3
          have hfz59_4 := blk_frozen BK170.out 4
          go_wp2
          go_ret
          exact ⟨by first | rfl | (simp [errW_none, errW_some] <;> rfl) | (simp [*, errW_none, errW_some] <;> rfl), by repeat (first | (with_reducible first | exact HB.out | apply below_alloc | apply pw_below_drewN | apply below_drew1 | refine below_set ?_ GE170.out) | exact HB.out)⟩
        ·rw [if_neg c56] at H
         have c56b0 : decide (a0_1 < 2147483648) = false := decide_eq_false c56
         clear c56
         obtain rfl := Option.some.inj H
         have hcz60_0 : wr.cell? ⟨gb170, 0, none⟩ = some (.int .i64 a0_0) := (blk_cell BK170.out 0).trans rfl
         have hcz60_1 : wr.cell? ⟨gb170, 1, none⟩ = some (.int .i64 a0_1) := (blk_cell BK170.out 1).trans rfl
         have hcz60_2 : wr.cell? ⟨gb170, 2, none⟩ = some (.int .i64 a0_2) := (blk_cell BK170.out 2).trans rfl
         have hcz60_3 : wr.cell? ⟨gb170, 3, none⟩ = some (.int .i64 a0_3) := (blk_cell BK170.out 3).trans rfl
         have hcz60_4 : wr.cell? ⟨gb170, 4, none⟩ = some (.slice A0_4 l0_4.length c0_4) := (blk_cell BK170.out 4).trans rfl
         have hfz60_0 := blk_frozen BK170.out 0
         have hfz60_1 := blk_frozen BK170.out 1
         have hfz60_2 := blk_frozen BK170.out 2
         have hfz60_3 := blk_frozen BK170.out 3
         have hfz60_4 := blk_frozen BK170.out 4
         go_wp2
         go_ret
         exact ⟨by first | rfl | (simp [errW_none, errW_some] <;> rfl) | (simp [*, errW_none, errW_some] <;> rfl), by repeat (first | (with_reducible first | exact HB.out | apply below_alloc | apply pw_below_drewN | apply below_drew1 | refine below_set ?_ GE170.out) | exact HB.out)⟩
       ·rw [if_neg c55] at H
        have c55b0 : decide (a0_0 < 2147483648) = false := decide_eq_false c55
        clear c55
        obtain rfl := Option.some.inj H
        have hcz61_0 : wr.cell? ⟨gb170, 0, none⟩ = some (.int .i64 a0_0) := (blk_cell BK170.out 0).trans rfl
        have hcz61_1 : wr.cell? ⟨gb170, 1, none⟩ = some (.int .i64 a0_1) := (blk_cell BK170.out 1).trans rfl
        have hcz61_2 : wr.cell? ⟨gb170, 2, none⟩ = some (.int .i64 a0_2) := (blk_cell BK170.out 2).trans rfl
        have hcz61_3 : wr.cell? ⟨gb170, 3, none⟩ = some (.int .i64 a0_3) := (blk_cell BK170.out 3).trans rfl
        have hcz61_4 : wr.cell? ⟨gb170, 4, none⟩ = some (.slice A0_4 l0_4.length c0_4) := (blk_cell BK170.out 4).trans rfl
        have hfz61_0 := blk_frozen BK170.out 0
        have hfz61_1 := blk_frozen BK170.out 1
        have hfz61_2 := blk_frozen BK170.out 2
        have hfz61_3 := blk_frozen BK170.out 3
        have hfz61_4 := blk_frozen BK170.out 4
        go_wp2
        go_ret
        exact ⟨by first | rfl | (simp [errW_none, errW_some] <;> rfl) | (simp [*, errW_none, errW_some] <;> rfl), by repeat (first | (with_reducible first | exact HB.out | apply below_alloc | apply pw_below_drewN | apply below_drew1 | refine below_set ?_ GE170.out) | exact HB.out)⟩
      ·replace c54 := Bool.eq_false_iff.mpr c54
       subst c54
       have H1 : (some false) = some r := by rw [if_neg (show ¬ (false = true) by decide)] at H; exact H
       clear H
       have H := H1
       clear H1
       obtain rfl := Option.some.inj H
       have hcz62_0 : wr.cell? ⟨gb170, 0, none⟩ = some (.int .i64 a0_0) := (blk_cell BK170.out 0).trans rfl
       have hcz62_1 : wr.cell? ⟨gb170, 1, none⟩ = some (.int .i64 a0_1) := (blk_cell BK170.out 1).trans rfl
       have hcz62_2 : wr.cell? ⟨gb170, 2, none⟩ = some (.int .i64 a0_2) := (blk_cell BK170.out 2).trans rfl
       have hcz62_3 : wr.cell? ⟨gb170, 3, none⟩ = some (.int .i64 a0_3) := (blk_cell BK170.out 3).trans rfl
       have hcz62_4 : wr.cell? ⟨gb170, 4, none⟩ = some (.slice A0_4 l0_4.length c0_4) := (blk_cell BK170.out 4).trans rfl
       have hfz62_0 := blk_frozen BK170.out 0
       have hfz62_1 := blk_frozen BK170.out 1
       have hfz62_2 := blk_frozen BK170.out 2
       have hfz62_3 := blk_frozen BK170.out 3
       have hfz62_4 := blk_frozen BK170.out 4
       go_wp2
       go_ret
       exact ⟨by first | rfl | (simp [errW_none, errW_some] <;> rfl) | (simp [*, errW_none, errW_some] <;> rfl), by repeat (first | (with_reducible first | exact HB.out | apply below_alloc | apply pw_below_drewN | apply below_drew1 | refine below_set ?_ GE170.out) | exact HB.out)⟩

end Go.Proofs.YtamojbfmphainaaDoor.Pr
-- shrunk
-- written by a program of this session's (a turned copy of the kit's printer); Lean checks it
namespace Go.Proofs.YtamojbfmphainaaDoor.Pr
open Go.RowKit Go.Proofs.YtamojbfmphainaaDoorW.PrintWords Go.Proofs.YtamojbfmphainaaDoorW.PrintLast Go.Proofs.YtamojbfmphainaaDoorW.PrintMore
attribute [local go_sem] max2_int min2_int max_two min_two max_three min_three max_four min_four   -- for this text's walks alone
set_option linter.unusedVariables false
set_option linter.unusedSimpArgs false

def grapevineref06_Digits.l0 : Nat → Int → ByteArray → Option (ByteArray)
 | 0, _, _ => none
 | k + 1, x0, x3 => if x0 > 9 then (if (Go.Utf8.encode (wrap32 (wrap64 (48 + (Int.tmod x0 10))))).size + x3.size ≤ 9223372036854775807 then (grapevineref06_Digits.l0 k (wrap64 (Int.tdiv x0 10)) ((Go.Utf8.encode (wrap32 (wrap64 (48 + (Int.tmod x0 10))))) ++ x3)) else (none)) else (if (Go.Utf8.encode (wrap32 (wrap64 (48 + x0)))).size + x3.size ≤ 9223372036854775807 then (some ((Go.Utf8.encode (wrap32 (wrap64 (48 + x0)))) ++ x3)) else (none))
def grapevineref06_Digits.f (k : Nat) (a0 : Int) : Option (ByteArray) := grapevineref06_Digits.l0 k a0 (⟨#[]⟩ : ByteArray)
theorem grapevineref06_Digits.mono_l : ∀ k, (∀ y0 y1, LeO (grapevineref06_Digits.l0 k y0 y1) (grapevineref06_Digits.l0 (k + 1) y0 y1))
 | 0 => fun _ _ r h => by simp [grapevineref06_Digits.l0] at h
 | k + 1 => by
  have ih0 := grapevineref06_Digits.mono_l k
  ·intro y0 y1
   unfold grapevineref06_Digits.l0
   repeat' first
   | (with_reducible exact ih0 _ _)
   | (with_reducible exact LeO.refl _)
   | (with_reducible exact LeO.none _)
   | (with_reducible refine LeO.ite ?_ ?_)
   | (with_reducible refine LeO.bind ?_ (fun _ => ?_))
   | exact ih0 _ _
   | exact LeO.none _
   | refine LeO.ite ?_ ?_
   | refine LeO.bind ?_ (fun _ => ?_)
theorem grapevineref06_Digits.mono : ∀ a0 k, LeO (grapevineref06_Digits.f k a0) (grapevineref06_Digits.f (k + 1) a0) := by
 intro a0 k
 have ih0 := grapevineref06_Digits.mono_l k
 unfold grapevineref06_Digits.f
 repeat' first
   | (with_reducible exact ih0 _ _)
   | (with_reducible exact LeO.refl _)
   | (with_reducible exact LeO.none _)
   | (with_reducible refine LeO.ite ?_ ?_)
   | (with_reducible refine LeO.bind ?_ (fun _ => ?_))
   | exact ih0 _ _
   | exact LeO.none _
   | refine LeO.ite ?_ ?_
   | refine LeO.bind ?_ (fun _ => ?_)
set_option maxHeartbeats 8000000 in
set_option maxRecDepth 100000 in
theorem grapevineref06_Digits.calls (k : Nat) (a0 : Int) (r : ByteArray) (w : World) (h : grapevineref06_Digits.f k a0 = some r) :
  Calls Tryd.prog 58 #[.int .i64 a0] w fun e w' => e = .returned (.string r) ∧ Drawn0 w w' := by
 have H : (grapevineref06_Digits.l0 k a0 (⟨#[]⟩ : ByteArray)) = some r := h
 clear h
 have H' := Aside0.mk H
 clear H
 go_enter Tryd.func58, Tryd.ntmps58
 go_wp2
 go_loopg [0, 3] k (fun kq v0 v3 w' => ∃ (x0_1 : Int) (x3_1 : ByteArray), v0 = .int .i64 x0_1 ∧ v3 = .string x3_1 ∧ Aside0 (grapevineref06_Digits.l0 kq x0_1 x3_1 = some r) ∧ Aside0 (kq ≤ k) ∧ Drawn0 w w')
 case atStart => exact ⟨(a0), ((⟨#[]⟩ : ByteArray)), (by first | rfl | (simp; done) | (simp [*]; done)), (by first | rfl | (simp; done) | (simp [*]; done)), H', ⟨Nat.le_refl _⟩, by repeat (first | exact Drawn0.refl _ | apply Drawn0.step)⟩
 case round =>
  clear H'
  obtain ⟨x0_1, x3_1, rfl, rfl, HA, HK1, ⟨m1, rfl⟩⟩ := hrel
  cases gk with
  | zero => exact absurd HA.out (by simp [grapevineref06_Digits.l0])
  | succ k1 =>
   have H := HA.out
   clear HA
   simp only [grapevineref06_Digits.l0] at H
   by_cases c2 : x0_1 > 9
   ·rw [if_pos c2] at H
    have c2b0 : decide (9 < x0_1) = true := decide_eq_true c2
    clear c2
    by_cases c3 : (Go.Utf8.encode (wrap32 (wrap64 (48 + (Int.tmod x0_1 10))))).size + x3_1.size ≤ 9223372036854775807
    ·rw [if_pos c3] at H
     have c3b0 := eq_true c3
     have c3b1 : decide ((Go.Utf8.encode (wrap32 (wrap64 (48 + (Int.tmod x0_1 10))))).size + x3_1.size ≤ 9223372036854775807) = true := decide_eq_true c3
     try have c3b2 : (9223372036854775807 < (Go.Utf8.encode (wrap32 (wrap64 (48 + (Int.tmod x0_1 10))))).size + x3_1.size) = False := eq_false (Nat.not_lt.2 c3)
     have H' := Aside0.mk H
     clear H
     go_wp2
     go_roundg k1
     case measure => have := HK1.out; omega
     case rel => exact ⟨(wrap64 (Int.tdiv x0_1 10)), ((Go.Utf8.encode (wrap32 (wrap64 (48 + (Int.tmod x0_1 10))))) ++ x3_1), (by first | rfl | (simp; done) | (simp [*]; done)), (by first | rfl | (simp; done) | (simp [*]; done)), H', ⟨by have := HK1.out; omega⟩, by repeat (first | exact Drawn0.refl _ | apply Drawn0.step)⟩
    ·rw [if_neg c3] at H
     exact absurd H (by simp)
   ·rw [if_neg c2] at H
    have c2b0 : decide (9 < x0_1) = false := decide_eq_false c2
    clear c2
    by_cases c4 : (Go.Utf8.encode (wrap32 (wrap64 (48 + x0_1)))).size + x3_1.size ≤ 9223372036854775807
    ·rw [if_pos c4] at H
     have c4b0 := eq_true c4
     have c4b1 : decide ((Go.Utf8.encode (wrap32 (wrap64 (48 + x0_1)))).size + x3_1.size ≤ 9223372036854775807) = true := decide_eq_true c4
     try have c4b2 : (9223372036854775807 < (Go.Utf8.encode (wrap32 (wrap64 (48 + x0_1)))).size + x3_1.size) = False := eq_false (Nat.not_lt.2 c4)
     obtain rfl := Option.some.inj H
     go_wp2
     go_ret
     exact ⟨by first | rfl | (simp; done) | (simp [*]; done), by repeat (first | exact Drawn0.refl _ | apply Drawn0.step)⟩
    ·rw [if_neg c4] at H
     exact absurd H (by simp)

end Go.Proofs.YtamojbfmphainaaDoor.Pr
-- shrunk
-- written by a program of this session's (a turned copy of the kit's printer); Lean checks it
namespace Go.Proofs.YtamojbfmphainaaDoor.Pr
open Go.RowKit Go.Proofs.YtamojbfmphainaaDoorW.PrintWords Go.Proofs.YtamojbfmphainaaDoorW.PrintLast Go.Proofs.YtamojbfmphainaaDoorW.PrintMore
attribute [local go_sem] max2_int min2_int max_two min_two max_three min_three max_four min_four   -- for this text's walks alone
set_option linter.unusedVariables false
set_option linter.unusedSimpArgs false

def grapevineref06_side.f (k : Nat) (a0 : Int) (a1 : Int) : Option (ByteArray) := if a1 > 0 then ((grapevineref06_Digits.f k (wrap64 (a0 + 1))).bind fun t174 => (if t174.size + 1 ≤ 9223372036854775807 then ((grapevineref06_Digits.f k a1).bind fun t175 => (if (t174 ++ (⟨#[44]⟩ : ByteArray)).size + t175.size ≤ 9223372036854775807 then (some ((t174 ++ (⟨#[44]⟩ : ByteArray)) ++ t175)) else (none))) else (none))) else ((grapevineref06_Digits.f k a0).bind fun t176 => (if t176.size + 1 ≤ 9223372036854775807 then ((grapevineref06_Digits.f k a1).bind fun t177 => (if (t176 ++ (⟨#[44]⟩ : ByteArray)).size + t177.size ≤ 9223372036854775807 then (some ((t176 ++ (⟨#[44]⟩ : ByteArray)) ++ t177)) else (none))) else (none)))
theorem grapevineref06_side.mono : ∀ a0 a1 k, LeO (grapevineref06_side.f k a0 a1) (grapevineref06_side.f (k + 1) a0 a1) := by
 intro a0 a1 k
 unfold grapevineref06_side.f
 repeat' first
   | (with_reducible exact grapevineref06_Digits.mono _ _)
   | (with_reducible exact LeO.refl _)
   | (with_reducible exact LeO.none _)
   | (with_reducible refine LeO.ite ?_ ?_)
   | (with_reducible refine LeO.bind ?_ (fun _ => ?_))
   | exact grapevineref06_Digits.mono _ _
   | exact LeO.none _
   | refine LeO.ite ?_ ?_
   | refine LeO.bind ?_ (fun _ => ?_)
set_option maxHeartbeats 8000000 in
set_option maxRecDepth 100000 in
theorem grapevineref06_side.calls (k : Nat) (a0 : Int) (a1 : Int) (r : ByteArray) (w : World) (h : grapevineref06_side.f k a0 a1 = some r) :
  Calls Tryd.prog 28 #[.int .i64 a0, .int .i64 a1] w fun e w' => e = .returned (.string r) ∧ Drawn0 w w' := by
 have H : (if a1 > 0 then ((grapevineref06_Digits.f k (wrap64 (a0 + 1))).bind fun t174 => (if t174.size + 1 ≤ 9223372036854775807 then ((grapevineref06_Digits.f k a1).bind fun t175 => (if (t174 ++ (⟨#[44]⟩ : ByteArray)).size + t175.size ≤ 9223372036854775807 then (some ((t174 ++ (⟨#[44]⟩ : ByteArray)) ++ t175)) else (none))) else (none))) else ((grapevineref06_Digits.f k a0).bind fun t176 => (if t176.size + 1 ≤ 9223372036854775807 then ((grapevineref06_Digits.f k a1).bind fun t177 => (if (t176 ++ (⟨#[44]⟩ : ByteArray)).size + t177.size ≤ 9223372036854775807 then (some ((t176 ++ (⟨#[44]⟩ : ByteArray)) ++ t177)) else (none))) else (none)))) = some r := h
 clear h
 by_cases c3 : a1 > 0
 ·rw [if_pos c3] at H
  have c3b0 : decide (0 < a1) = true := decide_eq_true c3
  clear c3
  replace H := Option.bind_eq_some_iff.mp H
  obtain ⟨t174, A40, H⟩ := H
  replace H : (if t174.size + 1 ≤ 9223372036854775807 then ((grapevineref06_Digits.f k a1).bind fun t175 => (if (t174 ++ (⟨#[44]⟩ : ByteArray)).size + t175.size ≤ 9223372036854775807 then (some ((t174 ++ (⟨#[44]⟩ : ByteArray)) ++ t175)) else (none))) else (none)) = some r := H
  have A4 := Aside0.mk A40
  clear A40
  by_cases c5 : t174.size + 1 ≤ 9223372036854775807
  ·rw [if_pos c5] at H
   have c5b0 := eq_true c5
   have c5b1 : decide (t174.size + 1 ≤ 9223372036854775807) = true := decide_eq_true c5
   try have c5b2 : (9223372036854775807 < t174.size + 1) = False := eq_false (Nat.not_lt.2 c5)
   replace H := Option.bind_eq_some_iff.mp H
   obtain ⟨t175, A60, H⟩ := H
   replace H : (if (t174 ++ (⟨#[44]⟩ : ByteArray)).size + t175.size ≤ 9223372036854775807 then (some ((t174 ++ (⟨#[44]⟩ : ByteArray)) ++ t175)) else (none)) = some r := H
   have A6 := Aside0.mk A60
   clear A60
   by_cases c7 : (t174 ++ (⟨#[44]⟩ : ByteArray)).size + t175.size ≤ 9223372036854775807
   ·rw [if_pos c7] at H
    have c7s0 : t174.size + 1 + t175.size ≤ 9223372036854775807 := by have h_ := c7; rw [ByteArray.size_append] at h_; exact h_
    try have c7s1 : (9223372036854775807 < t174.size + 1 + t175.size) = False := eq_false (Nat.not_lt.2 c7s0)
    have c7b0 := eq_true c7
    have c7b1 : decide ((t174 ++ (⟨#[44]⟩ : ByteArray)).size + t175.size ≤ 9223372036854775807) = true := decide_eq_true c7
    try have c7b2 : (9223372036854775807 < (t174 ++ (⟨#[44]⟩ : ByteArray)).size + t175.size) = False := eq_false (Nat.not_lt.2 c7)
    obtain rfl := Option.some.inj H
    go_enter Tryd.func28, Tryd.ntmps28
    go_wp2_with (first | ((with_reducible refine gate_callee (f := 58) rfl ?_); refine goesL_ (some 10) rfl rfl Tryd.func58 (by kernel_rfl) rfl #[.int .i64 (wrap64 (a0 + 1))] rfl (by (try simp only [List.map_toArray, List.map_cons, List.map_nil]); first | done | rfl | (simp only [List.length_drop, List.length_take]; rfl)) ?_; (with_reducible refine (grapevineref06_Digits.calls k (wrap64 (a0 + 1)) t174 _ A4.out).mono ?_); rintro e w' ⟨rfl, ⟨nd, rfl⟩⟩; refine ⟨_, rfl, ?_⟩) | ((with_reducible refine gate_callee (f := 58) rfl ?_); refine goesL_ (some 13) rfl rfl Tryd.func58 (by kernel_rfl) rfl #[.int .i64 a1] rfl (by (try simp only [List.map_toArray, List.map_cons, List.map_nil]); first | done | rfl | (simp only [List.length_drop, List.length_take]; rfl)) ?_; (with_reducible refine (grapevineref06_Digits.calls k a1 t175 _ A6.out).mono ?_); rintro e w' ⟨rfl, ⟨nd, rfl⟩⟩; refine ⟨_, rfl, ?_⟩))
    go_ret
    exact ⟨by first | rfl | (simp; done) | (simp [*]; done), by repeat (first | exact Drawn0.refl _ | apply Drawn0.step)⟩
   ·rw [if_neg c7] at H
    exact absurd H (by simp)
  ·rw [if_neg c5] at H
   exact absurd H (by simp)
 ·rw [if_neg c3] at H
  have c3b0 : decide (0 < a1) = false := decide_eq_false c3
  clear c3
  replace H := Option.bind_eq_some_iff.mp H
  obtain ⟨t176, A80, H⟩ := H
  replace H : (if t176.size + 1 ≤ 9223372036854775807 then ((grapevineref06_Digits.f k a1).bind fun t177 => (if (t176 ++ (⟨#[44]⟩ : ByteArray)).size + t177.size ≤ 9223372036854775807 then (some ((t176 ++ (⟨#[44]⟩ : ByteArray)) ++ t177)) else (none))) else (none)) = some r := H
  have A8 := Aside0.mk A80
  clear A80
  by_cases c9 : t176.size + 1 ≤ 9223372036854775807
  ·rw [if_pos c9] at H
   have c9b0 := eq_true c9
   have c9b1 : decide (t176.size + 1 ≤ 9223372036854775807) = true := decide_eq_true c9
   try have c9b2 : (9223372036854775807 < t176.size + 1) = False := eq_false (Nat.not_lt.2 c9)
   replace H := Option.bind_eq_some_iff.mp H
   obtain ⟨t177, A100, H⟩ := H
   replace H : (if (t176 ++ (⟨#[44]⟩ : ByteArray)).size + t177.size ≤ 9223372036854775807 then (some ((t176 ++ (⟨#[44]⟩ : ByteArray)) ++ t177)) else (none)) = some r := H
   have A10 := Aside0.mk A100
   clear A100
   by_cases c11 : (t176 ++ (⟨#[44]⟩ : ByteArray)).size + t177.size ≤ 9223372036854775807
   ·rw [if_pos c11] at H
    have c11s0 : t176.size + 1 + t177.size ≤ 9223372036854775807 := by have h_ := c11; rw [ByteArray.size_append] at h_; exact h_
    try have c11s1 : (9223372036854775807 < t176.size + 1 + t177.size) = False := eq_false (Nat.not_lt.2 c11s0)
    have c11b0 := eq_true c11
    have c11b1 : decide ((t176 ++ (⟨#[44]⟩ : ByteArray)).size + t177.size ≤ 9223372036854775807) = true := decide_eq_true c11
    try have c11b2 : (9223372036854775807 < (t176 ++ (⟨#[44]⟩ : ByteArray)).size + t177.size) = False := eq_false (Nat.not_lt.2 c11)
    obtain rfl := Option.some.inj H
    go_enter Tryd.func28, Tryd.ntmps28
    go_wp2_with (first | ((with_reducible refine gate_callee (f := 58) rfl ?_); refine goesL_ (some 10) rfl rfl Tryd.func58 (by kernel_rfl) rfl #[.int .i64 a0] rfl (by (try simp only [List.map_toArray, List.map_cons, List.map_nil]); first | done | rfl | (simp only [List.length_drop, List.length_take]; rfl)) ?_; (with_reducible refine (grapevineref06_Digits.calls k a0 t176 _ A8.out).mono ?_); rintro e w' ⟨rfl, ⟨nd, rfl⟩⟩; refine ⟨_, rfl, ?_⟩) | ((with_reducible refine gate_callee (f := 58) rfl ?_); refine goesL_ (some 13) rfl rfl Tryd.func58 (by kernel_rfl) rfl #[.int .i64 a1] rfl (by (try simp only [List.map_toArray, List.map_cons, List.map_nil]); first | done | rfl | (simp only [List.length_drop, List.length_take]; rfl)) ?_; (with_reducible refine (grapevineref06_Digits.calls k a1 t177 _ A10.out).mono ?_); rintro e w' ⟨rfl, ⟨nd, rfl⟩⟩; refine ⟨_, rfl, ?_⟩))
    go_ret
    exact ⟨by first | rfl | (simp; done) | (simp [*]; done), by repeat (first | exact Drawn0.refl _ | apply Drawn0.step)⟩
   ·rw [if_neg c11] at H
    exact absurd H (by simp)
  ·rw [if_neg c9] at H
   exact absurd H (by simp)

end Go.Proofs.YtamojbfmphainaaDoor.Pr
-- shrunk
-- written by a program of this session's (a turned copy of the kit's printer); Lean checks it
namespace Go.Proofs.YtamojbfmphainaaDoor.Pr
open Go.RowKit Go.Proofs.YtamojbfmphainaaDoorW.PrintWords Go.Proofs.YtamojbfmphainaaDoorW.PrintLast Go.Proofs.YtamojbfmphainaaDoorW.PrintMore
attribute [local go_sem] max2_int min2_int max_two min_two max_three min_three max_four min_four   -- for this text's walks alone
set_option linter.unusedVariables false
set_option linter.unusedSimpArgs false

def grapevineref06_mark.f  : Option (ByteArray) := some (⟨#[92, 32, 78, 111, 32, 110, 101, 119, 108, 105, 110, 101, 32, 97, 116, 32, 101, 110, 100, 32, 111, 102, 32, 102, 105, 108, 101, 10]⟩ : ByteArray)
set_option maxHeartbeats 8000000 in
set_option maxRecDepth 100000 in
theorem grapevineref06_mark.calls  (r : ByteArray) (w : World) (h : grapevineref06_mark.f  = some r) :
  Calls Tryd.prog 30 #[] w fun e w' => e = .returned (.string r) ∧ Drawn0 w w' := by
 have H : (some (⟨#[92, 32, 78, 111, 32, 110, 101, 119, 108, 105, 110, 101, 32, 97, 116, 32, 101, 110, 100, 32, 111, 102, 32, 102, 105, 108, 101, 10]⟩ : ByteArray)) = some r := h
 clear h
 obtain rfl := Option.some.inj H
 go_enter Tryd.func30, Tryd.ntmps30
 go_wp2
 go_ret
 exact ⟨by first | rfl | (simp; done) | (simp [*]; done), by repeat (first | exact Drawn0.refl _ | apply Drawn0.step)⟩

end Go.Proofs.YtamojbfmphainaaDoor.Pr
-- shrunk
/-
The document's Print, walked.
-/
namespace Go.Proofs.YtamojbfmphainaaDoor.Pr
open Go.RowKit Go.Proofs.YtamojbfmphainaaDoorW.PrintWords Go.Proofs.YtamojbfmphainaaDoorW.PrintLast Go.Proofs.YtamojbfmphainaaDoorW.PrintMore
set_option linter.unusedVariables false
set_option linter.unusedSimpArgs false
def grprint_8.T8 : Bool × List (List Nat × List Nat) := (true, [([], []), ([0], [0]), ([], []), ([], []), ([2, 3], [2, 3]), ([4], [4]), ([5], [5]), ([], []), ([], []), ([7, 8], [7, 8]), ([9], [9]), ([10], [10]), ([6, 11], [6, 11]), ([1, 12], [1, 12]), ([13], [13]), ([], []), ([], []), ([15, 16], [15, 16]), ([17], [17]), ([18], [18]), ([], []), ([], []), ([20, 21], [20, 21]), ([22], [22]), ([23], [23]), ([19, 24, 12], [19, 24]), ([14, 25], [14, 25]), ([26], [26]), ([27], [27]), ([28, 25, 0, 1, 2, 3, 4, 5, 6, 7, 8, 9, 10, 11, 12, 13, 14, 15, 16, 17, 18, 19, 20, 21, 22, 23, 24, 25, 26, 27, 28], [0, 28])])
def grprint_8.B8 : List Nat := [0, 1, 0, 0, 12, 28, 60, 0, 0, 384, 896, 1920, 4092, 8191, 16383, 0, 0, 98304, 229376, 491520, 0, 0, 3145728, 7340032, 15728640, 33529852, 67108863, 134217727, 268435455, 536870911]
theorem grprint_8.tab8 : rtab .any (opsOf Tryd.f11 8) = grprint_8.T8 := by kernel_rfl
theorem grprint_8.bits8 : waitsOk grprint_8.T8.2 grprint_8.B8 = true := by kernel_rfl
end Go.Proofs.YtamojbfmphainaaDoor.Pr
-- shrunk
-- written by a program of this session's (a turned copy of the kit's printer); Lean checks it
namespace Go.Proofs.YtamojbfmphainaaDoor.Pr
open Go.RowKit Go.Proofs.YtamojbfmphainaaDoorW.PrintWords Go.Proofs.YtamojbfmphainaaDoorW.PrintLast Go.Proofs.YtamojbfmphainaaDoorW.PrintMore
attribute [local go_sem] max2_int min2_int max_two min_two max_three min_three max_four min_four   -- for this text's walks alone
set_option linter.unusedVariables false
set_option linter.unusedSimpArgs false





def hunk_signed.l0 : Nat → Int → List ByteArray → List ByteArray → Int → Int → Option (List ByteArray)
 | 0, _, _, _, _, _ => none
 | k + 1, x0, x5, x11, x12, x13 => if x13 < x12 then (if 0 ≤ x13 then (if x13 < (x11.length : Int) then (if (Go.Utf8.encode x0).size + (rdOf ByteArray.empty x11 x13).size ≤ 9223372036854775807 then (if x13 < (x5.length : Int) then (hunk_signed.l0 k x0 (x5.set (x13 : Int).toNat ((Go.Utf8.encode x0) ++ (rdOf ByteArray.empty x11 x13))) x11 x12 (wrap64 (x13 + 1))) else (none)) else (none)) else (none)) else (none)) else (some x5)
def hunk_signed.f (k : Nat) (a0 : Int) (l1 : List ByteArray) : Option (List ByteArray) := if 0 ≤ (l1.length : Int) then (if ((l1.length : Int) : Int).toNat ≤ 17592186044416 then (hunk_signed.l0 k a0 (List.replicate ((l1.length : Int) : Int).toNat (⟨#[]⟩ : ByteArray)) l1 (l1.length : Int) 0) else (none)) else (none)
theorem hunk_signed.mono_l : ∀ k, (∀ y0 y1 y2 y3 y4, LeO (hunk_signed.l0 k y0 y1 y2 y3 y4) (hunk_signed.l0 (k + 1) y0 y1 y2 y3 y4))
 | 0 => fun _ _ _ _ _ r h => by simp [hunk_signed.l0] at h
 | k + 1 => by
  have ih0 := hunk_signed.mono_l k
  ·intro y0 y1 y2 y3 y4
   unfold hunk_signed.l0
   repeat' first
   | (with_reducible exact ih0 _ _ _ _ _)
   | (with_reducible exact LeO.refl _)
   | (with_reducible exact LeO.none _)
   | (with_reducible refine LeO.ite ?_ ?_)
   | (with_reducible refine LeO.bind ?_ (fun _ => ?_))
   | exact ih0 _ _ _ _ _
   | exact LeO.none _
   | refine LeO.ite ?_ ?_
   | refine LeO.bind ?_ (fun _ => ?_)
theorem hunk_signed.mono : ∀ a0 a1 k, LeO (hunk_signed.f k a0 a1) (hunk_signed.f (k + 1) a0 a1) := by
 intro a0 a1 k
 have ih0 := hunk_signed.mono_l k
 unfold hunk_signed.f
 repeat' first
   | (with_reducible exact ih0 _ _ _ _ _)
   | (with_reducible exact LeO.refl _)
   | (with_reducible exact LeO.none _)
   | (with_reducible refine LeO.ite ?_ ?_)
   | (with_reducible refine LeO.bind ?_ (fun _ => ?_))
   | exact ih0 _ _ _ _ _
   | exact LeO.none _
   | refine LeO.ite ?_ ?_
   | refine LeO.bind ?_ (fun _ => ?_)
set_option maxHeartbeats 8000000 in
set_option maxRecDepth 100000 in
theorem hunk_signed.calls (k : Nat) (a0 : Int) (A1 : Option Addr) (c1 : Nat) (l1 : List ByteArray) (r : List ByteArray) (w : World) (hr1 : Kd.C Kd.string w A1 l1.length l1) (hc1 : l1.length ≤ c1) (h : hunk_signed.f k a0 l1 = some r) :
  Calls Tryd.prog 69 #[.int .u8 a0, .slice A1 l1.length c1] w fun e w' => ∃ v0_ : Value, e = .returned (v0_) ∧ Kd.R Kd.string 9 w' w.heap.size (fun _ => True) v0_ r ∧ Below w.heap.size w w' := by
 have HR1 := Aside0.mk hr1
 have HC1 := Aside0.mk hc1
 clear hr1 hc1
 have HB := Aside0.mk (Below.refl w.heap.size w)
 have H : (if 0 ≤ (l1.length : Int) then (if ((l1.length : Int) : Int).toNat ≤ 17592186044416 then (hunk_signed.l0 k a0 (List.replicate ((l1.length : Int) : Int).toNat (⟨#[]⟩ : ByteArray)) l1 (l1.length : Int) 0) else (none)) else (none)) = some r := h
 clear h
 by_cases c3 : 0 ≤ (l1.length : Int)
 ·rw [if_pos c3] at H
  have c3b0 := eq_true c3
  have c3b1 : decide (0 ≤ (l1.length : Int)) = true := decide_eq_true c3
  clear c3
  by_cases c4 : ((l1.length : Int) : Int).toNat ≤ 17592186044416
  ·rw [if_pos c4] at H
   have c4b0 := eq_true c4
   have c4b1 : decide (((l1.length : Int) : Int).toNat ≤ 17592186044416) = true := decide_eq_true c4
   clear c4
   obtain ⟨y266, hy266⟩ : ∃ y_ : List ByteArray, y_ = (List.replicate ((l1.length : Int) : Int).toNat (⟨#[]⟩ : ByteArray)) := ⟨_, rfl⟩
   replace H : (hunk_signed.l0 k a0 y266 l1 (l1.length : Int) 0) = some r := by first | (rw [hy266]; with_reducible exact H) | (have H2_ := (Option.bind_some _ _).symm.trans H; rw [hy266]; with_reducible exact H2_) | (have H2_ := (Option.bind_some _ _).symm.trans H; with_reducible exact H2_) | with_reducible exact H | (rw [hy266]; exact H) | exact H
   have Ny266 := Aside0.mk hy266
   clear hy266
   have H' := Aside0.mk H
   clear H
   go_enter Tryd.func69, Tryd.ntmps69
   go_wp2_with (first | ((with_reducible refine gate_dst (N := 10) rfl ?_); refine Kd.R_make Kd.string _ 9 rfl (N := 10) rfl 33 _ _ rfl (l1.length : Int) rfl rfl Tryd.underlying33 (.string ⟨#[]⟩) 16 info9 rfl (by decide) (by omega) (⟨#[]⟩ : ByteArray) (ok := fun _ => True) (okp := fun _ => True) rfl (fun _ hk => hk) trivial (of_decide_eq_true (by first | (with_reducible assumption) | assumption)) (Nat.le_trans (Nat.mul_le_mul_right _ (of_decide_eq_true (by first | (with_reducible assumption) | assumption) : (l1.length : Int).toNat ≤ 17592186044416)) (by omega)) (Below.refl _ _) (Nat.le_refl _) ?_; intro v267 w5 ho6 hb hg_ hnew_; clear hg_ hnew_; (first | rw [← Ny266.out] at ho6 | (simp only [Int.reduceToNat] at ho6; rw [← Ny266.out] at ho6)); have n0_ := Aside0.mk (Kd.R_lower ho6 (below_size (by repeat (first | (with_reducible first | exact HB.out | apply below_alloc | apply pw_below_drewN | apply below_drew1) | exact HB.out)))); have n1_ := Aside0.mk (below_step (by repeat (first | (with_reducible first | exact HB.out | apply below_alloc | apply pw_below_drewN | apply below_drew1) | exact HB.out)) hb); clear HB; have HO268 := n0_; have HB := n1_; clear n0_ n1_; clear hb ho6))
   go_loopg [13] k (fun kq v13 w' => ∃ (x5_1 : List ByteArray) (x13_1 : Int), v13 = .int .i64 x13_1 ∧ Aside0 (hunk_signed.l0 kq a0 x5_1 l1 (l1.length : Int) x13_1 = some r) ∧ Aside0 (kq ≤ k) ∧ Aside0 (Kd.R Kd.string 9 w' w.heap.size (fun _ => True) v267 x5_1) ∧ Aside0 (Below w.heap.size w w'))
   case atStart => exact ⟨(y266), (0), (by first | rfl | (simp; done) | (simp [*]; done)), H', ⟨Nat.le_refl _⟩, ⟨by (with_reducible repeat (first | apply Kd.R_alloc | apply Kd.R_drewN | apply Kd.R_drew)); exact HO268.out⟩, ⟨by repeat (first | (with_reducible first | exact HB.out | apply below_alloc | apply pw_below_drewN | apply below_drew1) | exact HB.out)⟩⟩
   case round =>
    clear H'
    try clear c1
    try clear p2
    try clear c3
    try clear c3b0
    try clear c3b1
    try clear c4
    try clear c4b0
    try clear c4b1
    try clear c6
    obtain ⟨x5_1, x13_1, rfl, HA, HK1, HO_5, HB⟩ := hrel
    cases gk with
    | zero => exact absurd HA.out (by simp [hunk_signed.l0])
    | succ k1 =>
     have H := HA.out
     clear HA
     simp only [hunk_signed.l0] at H
     by_cases c7 : x13_1 < (l1.length : Int)
     ·rw [if_pos c7] at H
      have c7b0 : decide (x13_1 < (l1.length : Int)) = true := decide_eq_true c7
      clear c7
      by_cases c8 : 0 ≤ x13_1
      ·rw [if_pos c8] at H
       have c8b0 : decide (0 ≤ x13_1) = true := decide_eq_true c8
       clear c8
       by_cases c9 : x13_1 < (l1.length : Int)
       ·rw [if_pos c9] at H
        have c9b0 : decide (x13_1 < (l1.length : Int)) = true := decide_eq_true c9
        clear c9
        by_cases c10 : (Go.Utf8.encode a0).size + (rdOf ByteArray.empty l1 x13_1).size ≤ 9223372036854775807
        ·rw [if_pos c10] at H
         have c10b0 := eq_true c10
         have c10b1 : decide ((Go.Utf8.encode a0).size + (rdOf ByteArray.empty l1 x13_1).size ≤ 9223372036854775807) = true := decide_eq_true c10
         try have c10b2 : (9223372036854775807 < (Go.Utf8.encode a0).size + (rdOf ByteArray.empty l1 x13_1).size) = False := eq_false (Nat.not_lt.2 c10)
         by_cases c11 : x13_1 < (x5_1.length : Int)
         ·rw [if_pos c11] at H
          have c11b0 : decide (x13_1 < (x5_1.length : Int)) = true := decide_eq_true c11
          clear c11
          obtain ⟨y270, hy270⟩ : ∃ y_ : List ByteArray, y_ = (x5_1.set (x13_1 : Int).toNat ((Go.Utf8.encode a0) ++ (rdOf ByteArray.empty l1 x13_1))) := ⟨_, rfl⟩
          replace H : (hunk_signed.l0 k1 a0 y270 l1 (l1.length : Int) (wrap64 (x13_1 + 1))) = some r := by first | (rw [hy270]; with_reducible exact H) | (have H2_ := (Option.bind_some _ _).symm.trans H; rw [hy270]; with_reducible exact H2_) | (have H2_ := (Option.bind_some _ _).symm.trans H; with_reducible exact H2_) | with_reducible exact H | (rw [hy270]; exact H) | exact H
          have Ny270 := Aside0.mk hy270
          clear hy270
          have H' := Aside0.mk H
          clear H
          have p269 : 0 ≤ (x13_1 : Int) := of_decide_eq_true (by first | (with_reducible assumption) | assumption)
          have q269 : x13_1 < (l1.length : Int) := of_decide_eq_true (by first | (with_reducible assumption) | assumption)
          obtain ⟨ad269, e269, hx269_0⟩ := Kd.at_string HR1.out x13_1 p269 q269
          cases e269
          replace hx269_0 := (HB.out.cell (World.block_lt_of_cell? w _ hx269_0)).trans hx269_0
          replace p269 := eq_true p269
          replace q269 := eq_true q269
          have p12 : 0 ≤ (x13_1 : Int) := of_decide_eq_true (by first | (with_reducible assumption) | assumption)
          have q12 : (x13_1 : Int) < ((x5_1.length : Int) : Int) := of_decide_eq_true (by first | (with_reducible assumption) | assumption)
          obtain ⟨go12, co12, eo12, gb12, gl12, cl12, HG12⟩ := Kd.R_form HO_5.out (by omega)
          (first | cases eo12 | (injection eo12 with ea_ en_ ec_; (first | subst ea_ | (injection ea_ with ea_; subst ea_)); subst ec_; clear en_))
          have GB12 := Aside0.mk gb12
          have GG12 := Aside0.mk HG12
          clear gb12 gl12 HG12
          obtain ⟨hx12_0, hf12_0⟩ := Kd.R_celln (⟨#[]⟩ : ByteArray) HO_5.out (x13_1 : Int) p12 q12
          replace p12 := eq_true p12
          replace q12 := eq_true q12
          have HP13 := Kd.R_putg HO_5.out (x13_1 : Int) ((Go.Utf8.encode a0) ++ (rdOf ByteArray.empty l1 x13_1))
          go_wp2_with (first | ((with_reducible refine gate_store (t := 9) (p := 24) rfl ?_); refine store_event (t := 9) (p := 24) (v := ?vo_w14) (w1 := (wr.setCell ⟨go12, (x13_1 : Int).toNat, none⟩ (.string ((Go.Utf8.encode a0) ++ (rdOf ByteArray.empty l1 x13_1))))) ?hg ?ho ?hn ?hr ?_; (case ho => rfl); (case hg => rfl); (case hn => rfl); (case hr => first | (go_simp; done) | (go_simp; rfl)); intro w14 hw; have hg : wr.grownBy w14 (some go12) := (by rw [hw]; exact HP13.2); have hp_ : Kd.R Kd.string 9 w14 w.heap.size (fun _ => True) (.slice (some ⟨go12, 0, none⟩) x5_1.length co12) y270 := (by rw [hw, Ny270.out]; exact HP13.1); clear HP13; have n0_ := Aside0.mk (hp_); have n1_ := Aside0.mk ((by rw [hw]; exact below_set (HB.out) GB12.out : Below w.heap.size w w14)); clear HO_5; clear HB; have HO_5 := n0_; have HB := n1_; clear n0_ n1_; clear hg hw hp_))
          go_roundg k1
          case measure => have := HK1.out; omega
          case rel => exact ⟨(y270), (wrap64 (x13_1 + 1)), (by first | rfl | (simp; done) | (simp [*]; done)), H', ⟨by have := HK1.out; omega⟩, ⟨by (with_reducible repeat (first | apply Kd.R_alloc | apply Kd.R_drewN | apply Kd.R_drew)); exact HO_5.out⟩, ⟨by repeat (first | (with_reducible first | exact HB.out | apply below_alloc | apply pw_below_drewN | apply below_drew1) | exact HB.out)⟩⟩
         ·rw [if_neg c11] at H
          exact absurd H (by simp)
        ·rw [if_neg c10] at H
         exact absurd H (by simp)
       ·rw [if_neg c9] at H
        exact absurd H (by simp)
      ·rw [if_neg c8] at H
       exact absurd H (by simp)
     ·rw [if_neg c7] at H
      have c7b0 : decide (x13_1 < (l1.length : Int)) = false := decide_eq_false c7
      clear c7
      obtain rfl := Option.some.inj H
      go_wp2
      go_ret
      exact ⟨_, by first | rfl | (simp [errW_none, errW_some] <;> rfl) | (simp [*, errW_none, errW_some] <;> rfl), by (with_reducible repeat (first | apply Kd.R_alloc | apply Kd.R_drewN | apply Kd.R_drew)); exact HO_5.out, by repeat (first | (with_reducible first | exact HB.out | apply below_alloc | apply pw_below_drewN | apply below_drew1) | exact HB.out)⟩
  ·rw [if_neg c4] at H
   exact absurd H (by simp)
 ·rw [if_neg c3] at H
  exact absurd H (by simp)

end Go.Proofs.YtamojbfmphainaaDoor.Pr
-- shrunk
-- written by a program of this session's (a turned copy of the kit's printer); Lean checks it
namespace Go.Proofs.YtamojbfmphainaaDoor.Pr
open Go.RowKit Go.Proofs.YtamojbfmphainaaDoorW.PrintWords Go.Proofs.YtamojbfmphainaaDoorW.PrintLast Go.Proofs.YtamojbfmphainaaDoorW.PrintMore
attribute [local go_sem] max2_int min2_int max_two min_two max_three min_three max_four min_four   -- for this text's walks alone
set_option linter.unusedVariables false
set_option linter.unusedSimpArgs false

def hunk_bare.l0 : Nat → List ByteArray → List ByteArray → Int → Int → Option (List ByteArray)
 | 0, _, _, _, _ => none
 | k + 1, x3, x9, x10, x11 => if x11 < x10 then (if 0 ≤ x11 then (if x11 < (x9.length : Int) then (if 1 ≤ ((rdOf ByteArray.empty x9 x11).size : Int) then (if x11 < (x3.length : Int) then (hunk_bare.l0 k (x3.set (x11 : Int).toNat ((rdOf ByteArray.empty x9 x11).extract 1 (rdOf ByteArray.empty x9 x11).size)) x9 x10 (wrap64 (x11 + 1))) else (none)) else (none)) else (none)) else (none)) else (some x3)
def hunk_bare.f (k : Nat) (l0 : List ByteArray) : Option (List ByteArray) := if 0 ≤ (l0.length : Int) then (if ((l0.length : Int) : Int).toNat ≤ 17592186044416 then (hunk_bare.l0 k (List.replicate ((l0.length : Int) : Int).toNat (⟨#[]⟩ : ByteArray)) l0 (l0.length : Int) 0) else (none)) else (none)
theorem hunk_bare.mono_l : ∀ k, (∀ y0 y1 y2 y3, LeO (hunk_bare.l0 k y0 y1 y2 y3) (hunk_bare.l0 (k + 1) y0 y1 y2 y3))
 | 0 => fun _ _ _ _ r h => by simp [hunk_bare.l0] at h
 | k + 1 => by
  have ih0 := hunk_bare.mono_l k
  ·intro y0 y1 y2 y3
   unfold hunk_bare.l0
   repeat' first
   | (with_reducible exact ih0 _ _ _ _)
   | (with_reducible exact LeO.refl _)
   | (with_reducible exact LeO.none _)
   | (with_reducible refine LeO.ite ?_ ?_)
   | (with_reducible refine LeO.bind ?_ (fun _ => ?_))
   | exact ih0 _ _ _ _
   | exact LeO.none _
   | refine LeO.ite ?_ ?_
   | refine LeO.bind ?_ (fun _ => ?_)
theorem hunk_bare.mono : ∀ a0 k, LeO (hunk_bare.f k a0) (hunk_bare.f (k + 1) a0) := by
 intro a0 k
 have ih0 := hunk_bare.mono_l k
 unfold hunk_bare.f
 repeat' first
   | (with_reducible exact ih0 _ _ _ _)
   | (with_reducible exact LeO.refl _)
   | (with_reducible exact LeO.none _)
   | (with_reducible refine LeO.ite ?_ ?_)
   | (with_reducible refine LeO.bind ?_ (fun _ => ?_))
   | exact ih0 _ _ _ _
   | exact LeO.none _
   | refine LeO.ite ?_ ?_
   | refine LeO.bind ?_ (fun _ => ?_)
set_option maxHeartbeats 8000000 in
set_option maxRecDepth 100000 in
theorem hunk_bare.calls (k : Nat) (A0 : Option Addr) (c0 : Nat) (l0 : List ByteArray) (r : List ByteArray) (w : World) (hr0 : Kd.C Kd.string w A0 l0.length l0) (hc0 : l0.length ≤ c0) (h : hunk_bare.f k l0 = some r) :
  Calls Tryd.prog 49 #[.slice A0 l0.length c0] w fun e w' => ∃ v0_ : Value, e = .returned (v0_) ∧ Kd.R Kd.string 9 w' w.heap.size (fun _ => True) v0_ r ∧ Below w.heap.size w w' := by
 have HR0 := Aside0.mk hr0
 have HC0 := Aside0.mk hc0
 clear hr0 hc0
 have HB := Aside0.mk (Below.refl w.heap.size w)
 have H : (if 0 ≤ (l0.length : Int) then (if ((l0.length : Int) : Int).toNat ≤ 17592186044416 then (hunk_bare.l0 k (List.replicate ((l0.length : Int) : Int).toNat (⟨#[]⟩ : ByteArray)) l0 (l0.length : Int) 0) else (none)) else (none)) = some r := h
 clear h
 by_cases c2 : 0 ≤ (l0.length : Int)
 ·rw [if_pos c2] at H
  have c2b0 := eq_true c2
  have c2b1 : decide (0 ≤ (l0.length : Int)) = true := decide_eq_true c2
  clear c2
  by_cases c3 : ((l0.length : Int) : Int).toNat ≤ 17592186044416
  ·rw [if_pos c3] at H
   have c3b0 := eq_true c3
   have c3b1 : decide (((l0.length : Int) : Int).toNat ≤ 17592186044416) = true := decide_eq_true c3
   clear c3
   obtain ⟨y352, hy352⟩ : ∃ y_ : List ByteArray, y_ = (List.replicate ((l0.length : Int) : Int).toNat (⟨#[]⟩ : ByteArray)) := ⟨_, rfl⟩
   replace H : (hunk_bare.l0 k y352 l0 (l0.length : Int) 0) = some r := by first | (rw [hy352]; with_reducible exact H) | (have H2_ := (Option.bind_some _ _).symm.trans H; rw [hy352]; with_reducible exact H2_) | (have H2_ := (Option.bind_some _ _).symm.trans H; with_reducible exact H2_) | with_reducible exact H | (rw [hy352]; exact H) | exact H
   have Ny352 := Aside0.mk hy352
   clear hy352
   have H' := Aside0.mk H
   clear H
   go_enter Tryd.func49, Tryd.ntmps49
   go_wp2_with (first | ((with_reducible refine gate_dst (N := 8) rfl ?_); refine Kd.R_make Kd.string _ 9 rfl (N := 8) rfl 33 _ _ rfl (l0.length : Int) rfl rfl Tryd.underlying33 (.string ⟨#[]⟩) 16 info9 rfl (by decide) (by omega) (⟨#[]⟩ : ByteArray) (ok := fun _ => True) (okp := fun _ => True) rfl (fun _ hk => hk) trivial (of_decide_eq_true (by first | (with_reducible assumption) | assumption)) (Nat.le_trans (Nat.mul_le_mul_right _ (of_decide_eq_true (by first | (with_reducible assumption) | assumption) : (l0.length : Int).toNat ≤ 17592186044416)) (by omega)) (Below.refl _ _) (Nat.le_refl _) ?_; intro v353 w4 ho5 hb hg_ hnew_; clear hg_ hnew_; (first | rw [← Ny352.out] at ho5 | (simp only [Int.reduceToNat] at ho5; rw [← Ny352.out] at ho5)); have n0_ := Aside0.mk (Kd.R_lower ho5 (below_size (by repeat (first | (with_reducible first | exact HB.out | apply below_alloc | apply pw_below_drewN | apply below_drew1) | exact HB.out)))); have n1_ := Aside0.mk (below_step (by repeat (first | (with_reducible first | exact HB.out | apply below_alloc | apply pw_below_drewN | apply below_drew1) | exact HB.out)) hb); clear HB; have HO354 := n0_; have HB := n1_; clear n0_ n1_; clear hb ho5))
   go_loopg [11] k (fun kq v11 w' => ∃ (x3_1 : List ByteArray) (x11_1 : Int), v11 = .int .i64 x11_1 ∧ Aside0 (hunk_bare.l0 kq x3_1 l0 (l0.length : Int) x11_1 = some r) ∧ Aside0 (kq ≤ k) ∧ Aside0 (Kd.R Kd.string 9 w' w.heap.size (fun _ => True) v353 x3_1) ∧ Aside0 (Below w.heap.size w w'))
   case atStart => exact ⟨(y352), (0), (by first | rfl | (simp; done) | (simp [*]; done)), H', ⟨Nat.le_refl _⟩, ⟨by (with_reducible repeat (first | apply Kd.R_alloc | apply Kd.R_drewN | apply Kd.R_drew)); exact HO354.out⟩, ⟨by repeat (first | (with_reducible first | exact HB.out | apply below_alloc | apply pw_below_drewN | apply below_drew1) | exact HB.out)⟩⟩
   case round =>
    clear H'
    try clear c2
    try clear c2b0
    try clear c2b1
    try clear p2
    try clear c3
    try clear c3b0
    try clear c3b1
    try clear c4
    obtain ⟨x3_1, x11_1, rfl, HA, HK1, HO_3, HB⟩ := hrel
    cases gk with
    | zero => exact absurd HA.out (by simp [hunk_bare.l0])
    | succ k1 =>
     have H := HA.out
     clear HA
     simp only [hunk_bare.l0] at H
     by_cases c6 : x11_1 < (l0.length : Int)
     ·rw [if_pos c6] at H
      have c6b0 : decide (x11_1 < (l0.length : Int)) = true := decide_eq_true c6
      clear c6
      by_cases c7 : 0 ≤ x11_1
      ·rw [if_pos c7] at H
       have c7b0 : decide (0 ≤ x11_1) = true := decide_eq_true c7
       clear c7
       by_cases c8 : x11_1 < (l0.length : Int)
       ·rw [if_pos c8] at H
        have c8b0 : decide (x11_1 < (l0.length : Int)) = true := decide_eq_true c8
        clear c8
        by_cases c9 : 1 ≤ ((rdOf ByteArray.empty l0 x11_1).size : Int)
        ·rw [if_pos c9] at H
         have c9b0 := eq_true c9
         have c9b1 : decide (1 ≤ ((rdOf ByteArray.empty l0 x11_1).size : Int)) = true := decide_eq_true c9
         clear c9
         by_cases c10 : x11_1 < (x3_1.length : Int)
         ·rw [if_pos c10] at H
          have c10b0 : decide (x11_1 < (x3_1.length : Int)) = true := decide_eq_true c10
          clear c10
          obtain ⟨y356, hy356⟩ : ∃ y_ : List ByteArray, y_ = (x3_1.set (x11_1 : Int).toNat ((rdOf ByteArray.empty l0 x11_1).extract 1 (rdOf ByteArray.empty l0 x11_1).size)) := ⟨_, rfl⟩
          replace H : (hunk_bare.l0 k1 y356 l0 (l0.length : Int) (wrap64 (x11_1 + 1))) = some r := by first | (rw [hy356]; with_reducible exact H) | (have H2_ := (Option.bind_some _ _).symm.trans H; rw [hy356]; with_reducible exact H2_) | (have H2_ := (Option.bind_some _ _).symm.trans H; with_reducible exact H2_) | with_reducible exact H | (rw [hy356]; exact H) | exact H
          have Ny356 := Aside0.mk hy356
          clear hy356
          have H' := Aside0.mk H
          clear H
          have p355 : 0 ≤ (x11_1 : Int) := of_decide_eq_true (by first | (with_reducible assumption) | assumption)
          have q355 : x11_1 < (l0.length : Int) := of_decide_eq_true (by first | (with_reducible assumption) | assumption)
          obtain ⟨ad355, e355, hx355_0⟩ := Kd.at_string HR0.out x11_1 p355 q355
          cases e355
          replace hx355_0 := (HB.out.cell (World.block_lt_of_cell? w _ hx355_0)).trans hx355_0
          replace p355 := eq_true p355
          replace q355 := eq_true q355
          have p11 : 0 ≤ (x11_1 : Int) := of_decide_eq_true (by first | (with_reducible assumption) | assumption)
          have q11 : (x11_1 : Int) < ((x3_1.length : Int) : Int) := of_decide_eq_true (by first | (with_reducible assumption) | assumption)
          obtain ⟨go11, co11, eo11, gb11, gl11, cl11, HG11⟩ := Kd.R_form HO_3.out (by omega)
          (first | cases eo11 | (injection eo11 with ea_ en_ ec_; (first | subst ea_ | (injection ea_ with ea_; subst ea_)); subst ec_; clear en_))
          have GB11 := Aside0.mk gb11
          have GG11 := Aside0.mk HG11
          clear gb11 gl11 HG11
          obtain ⟨hx11_0, hf11_0⟩ := Kd.R_celln (⟨#[]⟩ : ByteArray) HO_3.out (x11_1 : Int) p11 q11
          replace p11 := eq_true p11
          replace q11 := eq_true q11
          have HP12 := Kd.R_putg HO_3.out (x11_1 : Int) ((rdOf ByteArray.empty l0 x11_1).extract 1 (rdOf ByteArray.empty l0 x11_1).size)
          go_wp2_with (first | ((with_reducible refine gate_store (t := 9) (p := 20) rfl ?_); refine store_event (t := 9) (p := 20) (v := ?vo_w13) (w1 := (wr.setCell ⟨go11, (x11_1 : Int).toNat, none⟩ (.string ((rdOf ByteArray.empty l0 x11_1).extract 1 (rdOf ByteArray.empty l0 x11_1).size)))) ?hg ?ho ?hn ?hr ?_; (case ho => rfl); (case hg => rfl); (case hn => rfl); (case hr => first | (go_simp; done) | (go_simp; rfl)); intro w13 hw; have hg : wr.grownBy w13 (some go11) := (by rw [hw]; exact HP12.2); have hp_ : Kd.R Kd.string 9 w13 w.heap.size (fun _ => True) (.slice (some ⟨go11, 0, none⟩) x3_1.length co11) y356 := (by rw [hw, Ny356.out]; exact HP12.1); clear HP12; have n0_ := Aside0.mk (hp_); have n1_ := Aside0.mk ((by rw [hw]; exact below_set (HB.out) GB11.out : Below w.heap.size w w13)); clear HO_3; clear HB; have HO_3 := n0_; have HB := n1_; clear n0_ n1_; clear hg hw hp_))
          go_roundg k1
          case measure => have := HK1.out; omega
          case rel => exact ⟨(y356), (wrap64 (x11_1 + 1)), (by first | rfl | (simp; done) | (simp [*]; done)), H', ⟨by have := HK1.out; omega⟩, ⟨by (with_reducible repeat (first | apply Kd.R_alloc | apply Kd.R_drewN | apply Kd.R_drew)); exact HO_3.out⟩, ⟨by repeat (first | (with_reducible first | exact HB.out | apply below_alloc | apply pw_below_drewN | apply below_drew1) | exact HB.out)⟩⟩
         ·rw [if_neg c10] at H
          exact absurd H (by simp)
        ·rw [if_neg c9] at H
         exact absurd H (by simp)
       ·rw [if_neg c8] at H
        exact absurd H (by simp)
      ·rw [if_neg c7] at H
       exact absurd H (by simp)
     ·rw [if_neg c6] at H
      have c6b0 : decide (x11_1 < (l0.length : Int)) = false := decide_eq_false c6
      clear c6
      obtain rfl := Option.some.inj H
      go_wp2
      go_ret
      exact ⟨_, by first | rfl | (simp [errW_none, errW_some] <;> rfl) | (simp [*, errW_none, errW_some] <;> rfl), by (with_reducible repeat (first | apply Kd.R_alloc | apply Kd.R_drewN | apply Kd.R_drew)); exact HO_3.out, by repeat (first | (with_reducible first | exact HB.out | apply below_alloc | apply pw_below_drewN | apply below_drew1) | exact HB.out)⟩
  ·rw [if_neg c3] at H
   exact absurd H (by simp)
 ·rw [if_neg c2] at H
  exact absurd H (by simp)

end Go.Proofs.YtamojbfmphainaaDoor.Pr
-- shrunk
-- written by a program of this session's (a turned copy of the kit's printer); Lean checks it
namespace Go.Proofs.YtamojbfmphainaaDoor.Pr
open Go.RowKit Go.Proofs.YtamojbfmphainaaDoorW.PrintWords Go.Proofs.YtamojbfmphainaaDoorW.PrintLast Go.Proofs.YtamojbfmphainaaDoorW.PrintMore
attribute [local go_sem] max2_int min2_int max_two min_two max_three min_three max_four min_four   -- for this text's walks alone
set_option linter.unusedVariables false
set_option linter.unusedSimpArgs false

def hunk_run.l0 : Nat → List ByteArray → Int → List ByteArray → Int → Int → Option (Int)
 | 0, _, _, _, _, _ => none
 | k + 1, x0, x1, x7, x8, x9 => if x9 < x8 then (if 0 ≤ x9 then (if x9 < (x7.length : Int) then (if 0 < ((rdOf ByteArray.empty x7 x9).size : Int) then (if (bt (rdOf ByteArray.empty x7 x9) 0) = x1 then (hunk_run.l0 k x0 x1 x7 x8 (wrap64 (x9 + 1))) else (some x9)) else (none)) else (none)) else (none)) else (some (x0.length : Int))
def hunk_run.f (k : Nat) (l0 : List ByteArray) (a1 : Int) : Option (Int) := hunk_run.l0 k l0 a1 l0 (l0.length : Int) 0
theorem hunk_run.mono_l : ∀ k, (∀ y0 y1 y2 y3 y4, LeO (hunk_run.l0 k y0 y1 y2 y3 y4) (hunk_run.l0 (k + 1) y0 y1 y2 y3 y4))
 | 0 => fun _ _ _ _ _ r h => by simp [hunk_run.l0] at h
 | k + 1 => by
  have ih0 := hunk_run.mono_l k
  ·intro y0 y1 y2 y3 y4
   unfold hunk_run.l0
   repeat' first
   | (with_reducible exact ih0 _ _ _ _ _)
   | (with_reducible exact LeO.refl _)
   | (with_reducible exact LeO.none _)
   | (with_reducible refine LeO.ite ?_ ?_)
   | (with_reducible refine LeO.bind ?_ (fun _ => ?_))
   | exact ih0 _ _ _ _ _
   | exact LeO.none _
   | refine LeO.ite ?_ ?_
   | refine LeO.bind ?_ (fun _ => ?_)
theorem hunk_run.mono : ∀ a0 a1 k, LeO (hunk_run.f k a0 a1) (hunk_run.f (k + 1) a0 a1) := by
 intro a0 a1 k
 have ih0 := hunk_run.mono_l k
 unfold hunk_run.f
 repeat' first
   | (with_reducible exact ih0 _ _ _ _ _)
   | (with_reducible exact LeO.refl _)
   | (with_reducible exact LeO.none _)
   | (with_reducible refine LeO.ite ?_ ?_)
   | (with_reducible refine LeO.bind ?_ (fun _ => ?_))
   | exact ih0 _ _ _ _ _
   | exact LeO.none _
   | refine LeO.ite ?_ ?_
   | refine LeO.bind ?_ (fun _ => ?_)
set_option maxHeartbeats 8000000 in
set_option maxRecDepth 100000 in
theorem hunk_run.calls (k : Nat) (A0 : Option Addr) (c0 : Nat) (l0 : List ByteArray) (a1 : Int) (r : Int) (w : World) (hr0 : Kd.C Kd.string w A0 l0.length l0) (hc0 : l0.length ≤ c0) (h : hunk_run.f k l0 a1 = some r) :
  Calls Tryd.prog 48 #[.slice A0 l0.length c0, .int .u8 a1] w fun e w' => e = .returned (.int .i64 r) ∧ Drawn0 w w' := by
 have HR0 := Aside0.mk hr0
 have HC0 := Aside0.mk hc0
 clear hr0 hc0
 have H : (hunk_run.l0 k l0 a1 l0 (l0.length : Int) 0) = some r := h
 clear h
 have H' := Aside0.mk H
 clear H
 go_enter Tryd.func48, Tryd.ntmps48
 go_wp2
 go_loopg [9] k (fun kq v9 w' => ∃ (x9_1 : Int), v9 = .int .i64 x9_1 ∧ Aside0 (hunk_run.l0 kq l0 a1 l0 (l0.length : Int) x9_1 = some r) ∧ Aside0 (kq ≤ k) ∧ Drawn0 w w')
 case atStart => exact ⟨(0), (by first | rfl | (simp; done) | (simp [*]; done)), H', ⟨Nat.le_refl _⟩, by repeat (first | exact Drawn0.refl _ | apply Drawn0.step)⟩
 case round =>
  clear H'
  try clear p2
  obtain ⟨x9_1, rfl, HA, HK1, ⟨m1, rfl⟩⟩ := hrel
  cases gk with
  | zero => exact absurd HA.out (by simp [hunk_run.l0])
  | succ k1 =>
   have H := HA.out
   clear HA
   simp only [hunk_run.l0] at H
   by_cases c3 : x9_1 < (l0.length : Int)
   ·rw [if_pos c3] at H
    have c3b0 : decide (x9_1 < (l0.length : Int)) = true := decide_eq_true c3
    clear c3
    by_cases c4 : 0 ≤ x9_1
    ·rw [if_pos c4] at H
     have c4b0 : decide (0 ≤ x9_1) = true := decide_eq_true c4
     clear c4
     by_cases c5 : x9_1 < (l0.length : Int)
     ·rw [if_pos c5] at H
      have c5b0 : decide (x9_1 < (l0.length : Int)) = true := decide_eq_true c5
      clear c5
      by_cases c6 : 0 < ((rdOf ByteArray.empty l0 x9_1).size : Int)
      ·rw [if_pos c6] at H
       have c6b0 : decide (0 < ((rdOf ByteArray.empty l0 x9_1).size : Int)) = true := decide_eq_true c6
       have c6b1 : decide (0 < (rdOf ByteArray.empty l0 x9_1).size) = true := decide_eq_true (by omega)
       clear c6
       by_cases c8 : (bt (rdOf ByteArray.empty l0 x9_1) 0) = a1
       ·rw [if_pos c8] at H
        have c8b0 : ((bt (rdOf ByteArray.empty l0 x9_1) 0) == a1) = true := beq_iff_eq.mpr c8
        have c8b1 : ((bt (rdOf ByteArray.empty l0 x9_1) 0) != a1) = false := bne_eq_false_iff_eq.mpr c8
        clear c8
        have H' := Aside0.mk H
        clear H
        have p351 : 0 ≤ (x9_1 : Int) := of_decide_eq_true (by first | (with_reducible assumption) | assumption)
        have q351 : x9_1 < (l0.length : Int) := of_decide_eq_true (by first | (with_reducible assumption) | assumption)
        obtain ⟨ad351, e351, hx351_0⟩ := Kd.at_string HR0.out x9_1 p351 q351
        cases e351
        replace p351 := eq_true p351
        replace q351 := eq_true q351
        have p7 : 0 ≤ (0 : Int) := (by omega)
        have q7 : 0 < (rdOf ByteArray.empty l0 x9_1).size := (by have : (0 : Int) < ((rdOf ByteArray.empty l0 x9_1).size : Int) := of_decide_eq_true (by first | (with_reducible assumption) | assumption); omega)
        have hx7 : ∀ h : 0 < (rdOf ByteArray.empty l0 x9_1).size, (((rdOf ByteArray.empty l0 x9_1)[0]'h).toNat : Int) = bt (rdOf ByteArray.empty l0 x9_1) 0 := bt_at (rdOf ByteArray.empty l0 x9_1) 0
        clear p7
        have qi7 : (0 < ((rdOf ByteArray.empty l0 x9_1).size : Int)) = True := eq_true (of_decide_eq_true (by first | (with_reducible assumption) | assumption))
        replace q7 := eq_true q7
        go_wp2
        go_roundg k1
        case measure => have := HK1.out; omega
        case rel => exact ⟨(wrap64 (x9_1 + 1)), (by first | rfl | (simp; done) | (simp [*]; done)), H', ⟨by have := HK1.out; omega⟩, by repeat (first | exact Drawn0.refl _ | apply Drawn0.step)⟩
       ·rw [if_neg c8] at H
        have c8b0 : ((bt (rdOf ByteArray.empty l0 x9_1) 0) == a1) = false := beq_eq_false_iff_ne.mpr c8
        have c8b1 : ((bt (rdOf ByteArray.empty l0 x9_1) 0) != a1) = true := bne_iff_ne.mpr c8
        obtain rfl := Option.some.inj H
        have p351 : 0 ≤ (x9_1 : Int) := of_decide_eq_true (by first | (with_reducible assumption) | assumption)
        have q351 : x9_1 < (l0.length : Int) := of_decide_eq_true (by first | (with_reducible assumption) | assumption)
        obtain ⟨ad351, e351, hx351_0⟩ := Kd.at_string HR0.out x9_1 p351 q351
        cases e351
        replace p351 := eq_true p351
        replace q351 := eq_true q351
        have p7 : 0 ≤ (0 : Int) := (by omega)
        have q7 : 0 < (rdOf ByteArray.empty l0 x9_1).size := (by have : (0 : Int) < ((rdOf ByteArray.empty l0 x9_1).size : Int) := of_decide_eq_true (by first | (with_reducible assumption) | assumption); omega)
        have hx7 : ∀ h : 0 < (rdOf ByteArray.empty l0 x9_1).size, (((rdOf ByteArray.empty l0 x9_1)[0]'h).toNat : Int) = bt (rdOf ByteArray.empty l0 x9_1) 0 := bt_at (rdOf ByteArray.empty l0 x9_1) 0
        clear p7
        have qi7 : (0 < ((rdOf ByteArray.empty l0 x9_1).size : Int)) = True := eq_true (of_decide_eq_true (by first | (with_reducible assumption) | assumption))
        replace q7 := eq_true q7
        go_wp2
        go_ret
        exact ⟨by first | rfl | (simp; done) | (simp [*]; done), by repeat (first | exact Drawn0.refl _ | apply Drawn0.step)⟩
      ·rw [if_neg c6] at H
       exact absurd H (by simp)
     ·rw [if_neg c5] at H
      exact absurd H (by simp)
    ·rw [if_neg c4] at H
     exact absurd H (by simp)
   ·rw [if_neg c3] at H
    have c3b0 : decide (x9_1 < (l0.length : Int)) = false := decide_eq_false c3
    clear c3
    obtain rfl := Option.some.inj H
    go_wp2
    go_ret
    exact ⟨by first | rfl | (simp; done) | (simp [*]; done), by repeat (first | exact Drawn0.refl _ | apply Drawn0.step)⟩

end Go.Proofs.YtamojbfmphainaaDoor.Pr
-- shrunk
/-
What the printed functions of package hunk compute of lines with signs, as plain Lean: signed, bare, run, count.
-/
namespace Go.Proofs.YtamojbfmphainaaDoor.Pr
open Go.RowKit Go.Proofs.YtamojbfmphainaaDoorW.PrintWords Go.Proofs.YtamojbfmphainaaDoorW.PrintLast Go.Proofs.YtamojbfmphainaaDoorW.PrintMore
set_option linter.unusedVariables false
set_option linter.unusedSimpArgs false
theorem nil_toList : ([] : List UInt8) = ByteArray.empty.toList := by
 rw [ByteArray.toList, ByteArray.toList.loop]; simp
def cntL (came : Bool) (an bn : Int) : List ByteArray → Int × Int × Bool
 | [] => (an, bn, true)
 | s :: l => if s.toList = ([] : List UInt8) then (0, 0, false) else if bt s 0 = 45 ∧ came = true then (0, 0, false) else
   if bt s 0 = 32 then cntL false (an + 1) (bn + 1) l else if bt s 0 = 43 then cntL true an (bn + 1) l else if bt s 0 = 45 then cntL false (an + 1) bn l else (0, 0, false)
theorem ne_size {s : ByteArray} (h : ¬ s.toList = ([] : List UInt8)) : 0 < s.size := by
 rw [nil_toList, toList_iff] at h
 rcases Nat.eq_zero_or_pos s.size with h0 | h0
 ·exact absurd (ByteArray.size_eq_zero_iff.1 h0) h
 ·exact h0
theorem count_l0 (l : List ByteArray) (hn : l.length ≤ 1099511627776) :
  ∀ (d i : Nat) (an bn : Int) (came : Bool), l.length - i = d → i ≤ l.length → 0 ≤ an → an ≤ i → 0 ≤ bn → bn ≤ i → Ev (fun k => hunk_count.l0 k an bn came l (l.length : Int) (i : Int)) (cntL came an bn (l.drop i)) := by
 intro d
 induction d with
 | zero =>
  intro i an bn came hd hi h1 h2 h3 h4
  refine Ev.step (fun _ => hunk_count.l0.eq_2 ..) ?_
  simp only [if_neg (show ¬ (i : Int) < (l.length : Int) by omega)]
  rw [List.drop_of_length_le (by omega)]
  exact Ev.now _
 | succ d ih =>
  intro i an bn came hd hi h1 h2 h3 h4
  refine Ev.step (fun _ => hunk_count.l0.eq_2 ..) ?_
  have h0 : i < l.length := by omega
  rw [List.drop_eq_getElem_cons h0]
  simp only [if_pos (show (i : Int) < (l.length : Int) by omega), if_pos (show 0 ≤ (i : Int) by omega), rdS_at h0, cntL]
  have wa : wrap64 (an + 1) = an + 1 := w_in (by omega) (by omega)
  have wb : wrap64 (bn + 1) = bn + 1 := w_in (by omega) (by omega)
  have hj : ∀ cc : Bool, 0 < l[i].size → Ev (fun k => hunk_count.j1 k an bn l[i] l (l.length : Int) (i : Int) cc) (if cc = true then (0, 0, false) else
    if bt l[i] 0 = 32 then cntL false (an + 1) (bn + 1) (l.drop (i + 1)) else if bt l[i] 0 = 43 then cntL true an (bn + 1) (l.drop (i + 1)) else if bt l[i] 0 = 45 then cntL false (an + 1) bn (l.drop (i + 1)) else (0, 0, false)) := by
   intro cc hp
   refine Ev.step (fun _ => hunk_count.j1.eq_2 ..) ?_
   by_cases hcc : cc = true
   ·simp only [if_pos hcc]; exact Ev.now _
   simp only [if_neg hcc, if_pos (show (0 : Int) < (l[i].size : Int) by omega), wa, wb, w_succ h0 (show l.length ≤ 4611686018427387904 by omega)]
   by_cases b32 : bt l[i] 0 = 32
   ·simp only [if_pos b32]
    have h := ih (i + 1) (an + 1) (bn + 1) (bt l[i] 0 == 43) (by omega) (by omega) (by omega) (by omega) (by omega) (by omega)
    rw [show (bt l[i] 0 == 43) = false by rw [b32]; rfl] at h
    simp only [show (bt l[i] 0 == 43) = false by rw [b32]; rfl]
    exact h
   simp only [if_neg b32]
   by_cases b43 : bt l[i] 0 = 43
   ·simp only [if_pos b43]
    have h := ih (i + 1) an (bn + 1) (bt l[i] 0 == 43) (by omega) (by omega) (by omega) (by omega) (by omega) (by omega)
    rw [show (bt l[i] 0 == 43) = true by rw [b43]; rfl] at h
    simp only [show (bt l[i] 0 == 43) = true by rw [b43]; rfl]
    exact h
   simp only [if_neg b43]
   by_cases b45 : bt l[i] 0 = 45
   ·simp only [if_pos b45]
    have h := ih (i + 1) (an + 1) bn (bt l[i] 0 == 43) (by omega) (by omega) (by omega) (by omega) (by omega) (by omega)
    rw [show (bt l[i] 0 == 43) = false by rw [b45]; rfl] at h
    simp only [show (bt l[i] 0 == 43) = false by rw [b45]; rfl]
    exact h
   simp only [if_neg b45]
   exact Ev.now _
  by_cases he : l[i].toList = ([] : List UInt8)
  ·simp only [if_pos he]
   refine Ev.step (fun _ => hunk_count.j1.eq_2 ..) ?_
   simp only [if_true]
   exact Ev.now _
  have hp := ne_size he
  simp only [if_neg he, if_pos (show (0 : Int) < (l[i].size : Int) by omega)]
  by_cases b45 : bt l[i] 0 = 45
  ·simp only [if_pos b45]
   have h := hj came hp
   cases came
   ·simpa [b45] using h
   ·simpa [b45] using h
  ·simp only [if_neg b45]
   have h := hj false hp
   simpa [b45] using h
theorem count_ev (l : List ByteArray) (hn : l.length ≤ 1099511627776) : Ev (fun k => hunk_count.f k l) (cntL false 0 0 l) := by
 unfold hunk_count.f
 have h := count_l0 l hn _ 0 0 0 false rfl (by omega) (by omega) (by omega) (by omega) (by omega)
 simpa using h
end Go.Proofs.YtamojbfmphainaaDoor.Pr
-- shrunk
/-
Lines of a hunk that are right, and how many they are, in plain Lean.
-/
namespace Go.Proofs.YtamojbfmphainaaDoor.Pr
open Go.RowKit Go.Proofs.YtamojbfmphainaaDoorW.PrintWords Go.Proofs.YtamojbfmphainaaDoorW.PrintLast Go.Proofs.YtamojbfmphainaaDoorW.PrintMore
set_option linter.unusedVariables false
set_option linter.unusedSimpArgs false
def manyL (z : Int) : List ByteArray → Nat
 | [] => 0
 | s :: l => (if 0 < s.size ∧ (bt s 0 = 32 ∨ bt s 0 = z) then 1 else 0) + manyL z l
def okL (came : Bool) : List ByteArray → Bool
 | [] => true
 | s :: l => decide (0 < s.size ∧ (bt s 0 = 32 ∨ bt s 0 = 43 ∨ bt s 0 = 45) ∧ ¬ (bt s 0 = 45 ∧ came = true)) && okL (decide (bt s 0 = 43)) l
theorem cntL_ok : ∀ (l : List ByteArray) (came : Bool) (an bn : Int), (cntL came an bn l).2.2 = okL came l ∧ (okL came l = true → cntL came an bn l = (an + manyL 45 l, bn + manyL 43 l, true))
 | [], came, an, bn => ⟨rfl, fun _ => by simp [cntL, manyL]⟩
 | s :: l, came, an, bn => by
  rw [cntL, okL]
  by_cases h0 : s.toList = ([] : List UInt8)
  ·have hs : ¬ 0 < s.size := by
    rw [nil_toList, toList_iff] at h0
    subst h0
    simp
   rw [if_pos h0, decide_eq_false (fun h => hs h.1), Bool.false_and]
   exact ⟨rfl, fun h => absurd h (by simp)⟩
  have hp := ne_size h0
  rw [if_neg h0]
  by_cases h1 : bt s 0 = 45 ∧ came = true
  ·rw [if_pos h1, decide_eq_false (fun h => h.2.2 h1), Bool.false_and]
   exact ⟨rfl, fun h => absurd h (by simp)⟩
  rw [if_neg h1]
  by_cases b32 : bt s 0 = 32
  ·have ih := cntL_ok l false (an + 1) (bn + 1)
   rw [if_pos b32, decide_eq_true ⟨hp, Or.inl b32, h1⟩, Bool.true_and, decide_eq_false (by omega)]
   refine ⟨ih.1, fun h => ?_⟩
   rw [ih.2 h, manyL, manyL, if_pos ⟨hp, Or.inl b32⟩, if_pos ⟨hp, Or.inl b32⟩]
   congr 1
   ·push_cast; omega
   ·congr 1; push_cast; omega
  rw [if_neg b32]
  by_cases b43 : bt s 0 = 43
  ·have ih := cntL_ok l true an (bn + 1)
   rw [if_pos b43, decide_eq_true ⟨hp, Or.inr (Or.inl b43), h1⟩, Bool.true_and, decide_eq_true b43]
   refine ⟨ih.1, fun h => ?_⟩
   rw [ih.2 h, manyL, manyL, if_neg (by rintro ⟨_, h | h⟩ <;> omega), if_pos ⟨hp, Or.inr b43⟩, Nat.zero_add]
   congr 1
   congr 1; push_cast; omega
  rw [if_neg b43]
  by_cases b45 : bt s 0 = 45
  ·have ih := cntL_ok l false (an + 1) bn
   rw [if_pos b45, decide_eq_true ⟨hp, Or.inr (Or.inr b45), h1⟩, Bool.true_and, decide_eq_false (by omega)]
   refine ⟨ih.1, fun h => ?_⟩
   rw [ih.2 h, manyL, manyL, if_pos ⟨hp, Or.inr b45⟩, if_neg (by rintro ⟨_, h | h⟩ <;> omega), Nat.zero_add]
   congr 1
   push_cast; omega
  ·rw [if_neg b45, decide_eq_false (by rintro ⟨_, h | h | h, _⟩ <;> omega), Bool.false_and]
   exact ⟨rfl, fun h => absurd h (by simp)⟩
def rightL (A An B Bn : Int) (l : List ByteArray) : Bool := decide (okL false l = true ∧ 0 ≤ A ∧ 0 ≤ B ∧ An = manyL 45 l ∧ Bn = manyL 43 l)
theorem right_same (A An B Bn : Int) (l : List ByteArray) : decide ((cntL false 0 0 l).2.2 = true ∧ 0 ≤ A ∧ 0 ≤ B ∧ (cntL false 0 0 l).1 = An ∧ (cntL false 0 0 l).2.1 = Bn) = rightL A An B Bn l := by
 have h := cntL_ok l false 0 0
 unfold rightL
 rw [decide_eq_decide, h.1]
 constructor
 ·rintro ⟨h1, h2, h3, h4, h5⟩
  rw [h.2 h1] at h4 h5
  exact ⟨h1, h2, h3, by have h4' : (0 : Int) + (manyL 45 l : Int) = An := h4; omega, by have h5' : (0 : Int) + (manyL 43 l : Int) = Bn := h5; omega⟩
 ·rintro ⟨h1, h2, h3, h4, h5⟩
  rw [h.2 h1]
  exact ⟨h1, h2, h3, by show (0 : Int) + (manyL 45 l : Int) = An; omega, by show (0 : Int) + (manyL 43 l : Int) = Bn; omega⟩
end Go.Proofs.YtamojbfmphainaaDoor.Pr
-- shrunk
/-
What layer 6 needs of hunks that are right: package hunk's Right, and the document's.
-/
namespace Go.Proofs.YtamojbfmphainaaDoor.Pr
open Go.RowKit Go.Proofs.YtamojbfmphainaaDoorW.PrintWords Go.Proofs.YtamojbfmphainaaDoorW.PrintLast Go.Proofs.YtamojbfmphainaaDoorW.PrintMore
set_option linter.unusedVariables false
set_option linter.unusedSimpArgs false
theorem HRight_ev (A An B Bn : Int) (l : List ByteArray) (hn : l.length ≤ 1099511627776) :
  Ev (fun k => hunk_Right.f k A An B Bn l) (decide ((cntL false 0 0 l).2.2 = true ∧ 0 ≤ A ∧ 0 ≤ B ∧ (cntL false 0 0 l).1 = An ∧ (cntL false 0 0 l).2.1 = Bn)) := by
 unfold hunk_Right.f
 refine Ev.bind (count_ev l hn) ?_
 generalize cntL false 0 0 l = c
 by_cases h1 : c.2.2 = true
 ·simp only [if_pos h1]
  by_cases h2 : A ≥ 0
  ·simp only [if_pos h2]
   by_cases h3 : B ≥ 0
   ·simp only [if_pos h3]
    by_cases h4 : c.1 = An
    ·simp only [if_pos h4]
     have e : (c.2.1 == Bn) = decide (c.2.2 = true ∧ 0 ≤ A ∧ 0 ≤ B ∧ c.1 = An ∧ c.2.1 = Bn) := by
      rw [Bool.eq_iff_iff, beq_iff_eq, decide_eq_true_iff]; exact ⟨fun h => ⟨h1, h2, h3, h4, h⟩, fun h => h.2.2.2.2⟩
     rw [e]; exact Ev.now _
    ·simp only [if_neg h4]
     rw [decide_eq_false (fun h => h4 h.2.2.2.1)]; exact Ev.now _
   ·simp only [if_neg h3]
    rw [decide_eq_false (fun h => h3 h.2.2.1)]; exact Ev.now _
  ·simp only [if_neg h2]
   rw [decide_eq_false (fun h => h2 h.2.1)]; exact Ev.now _
 ·simp only [if_neg h1]
  rw [decide_eq_false (fun h => h1 h.1)]; exact Ev.now _
end Go.Proofs.YtamojbfmphainaaDoor.Pr
-- shrunk
