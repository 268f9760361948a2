-- written by a program of this session's (a turned copy of the kit's printer); Lean checks it
import Derived.Test.YtlabiajcohmjhaaD0
import Derived.Test.YtlabiajcohmjhaaD4a
import Derived.Test.YtlabiajcohmjhaaD4b
namespace Go.Proofs.Ytlabiajcohmjhaa.Pr
open Go.RowKit Go.Proofs.YtlabiajcohmjhaaW.PrintWords Go.Proofs.YtlabiajcohmjhaaW.PrintLast Go.Proofs.YtlabiajcohmjhaaW.PrintMore
attribute [local go_sem] max2_int min2_int max_two min_two max_three min_three max_four min_four   -- for this text's walks alone
set_option linter.unusedVariables false
set_option linter.unusedSimpArgs false

def hunk_Edits.l0 : Nat → List (S51) → Int → List ByteArray → Option ((List (S51)))
 | 0, _, _, _ => none
 | k + 1, x3, x4, x5 => if (x5.length : Int) > 0 then ((hunk_run.f k x5 32).bind fun t259 => (if 0 ≤ t259 then (if t259 ≤ (x5.length : Int) then ((hunk_run.f k (x5.drop (t259 : Int).toNat) 45).bind fun t265 => (if 0 ≤ (wrap64 (t259 + t265)) then (if (wrap64 (t259 + t265)) ≤ (x5.length : Int) then ((hunk_run.f k (x5.drop ((wrap64 (t259 + t265)) : Int).toNat) 43).bind fun t271 => (if (wrap64 ((wrap64 (t259 + t265)) + t271)) > t259 then (if (wrap64 (t259 + t265)) ≤ (wrap64 ((wrap64 (t259 + t265)) + t271)) then (if (wrap64 ((wrap64 (t259 + t265)) + t271)) ≤ (x5.length : Int) then ((hunk_bare.f k ((x5.take ((wrap64 ((wrap64 (t259 + t265)) + t271)) : Int).toNat).drop ((wrap64 (t259 + t265)) : Int).toNat)).bind fun t277 => (if x3.length < 3518437208883 then (if 0 ≤ (wrap64 ((wrap64 (t259 + t265)) + t271)) then (hunk_Edits.l0 k (x3 ++ [(⟨wrap64 (x4 + t259), wrap64 ((wrap64 (t259 + t265)) - t259), t277⟩ : S51)]) (wrap64 (x4 + (wrap64 (t259 + t265)))) (x5.drop ((wrap64 ((wrap64 (t259 + t265)) + t271)) : Int).toNat)) else (none)) else (none))) else (none)) else (none)) else (if 0 ≤ (wrap64 ((wrap64 (t259 + t265)) + t271)) then (if (wrap64 ((wrap64 (t259 + t265)) + t271)) ≤ (x5.length : Int) then (hunk_Edits.l0 k x3 (wrap64 (x4 + (wrap64 (t259 + t265)))) (x5.drop ((wrap64 ((wrap64 (t259 + t265)) + t271)) : Int).toNat)) else (none)) else (none)))) else (none)) else (none))) else (none)) else (none))) else (some x3)
def hunk_Edits.f (k : Nat) (a0_0 : Int) (a0_1 : Int) (a0_2 : Int) (a0_3 : Int) (l0_4 : List ByteArray) : Option ((List (S51))) := hunk_Edits.l0 k ([] : List (S51)) a0_0 l0_4
theorem hunk_Edits.mono_l : ∀ k, (∀ y0 y1 y2, LeO (hunk_Edits.l0 k y0 y1 y2) (hunk_Edits.l0 (k + 1) y0 y1 y2))
 | 0 => fun _ _ _ r h => by simp [hunk_Edits.l0] at h
 | k + 1 => by
  have ih0 := hunk_Edits.mono_l k
  ·intro y0 y1 y2
   unfold hunk_Edits.l0
   repeat' first
   | (with_reducible exact ih0 _ _ _)
   | (with_reducible exact hunk_bare.mono _ _)
   | (with_reducible exact hunk_run.mono _ _ _)
   | (with_reducible exact LeO.refl _)
   | (with_reducible exact LeO.none _)
   | (with_reducible refine LeO.ite ?_ ?_)
   | (with_reducible refine LeO.bind ?_ (fun _ => ?_))
   | exact ih0 _ _ _
   | exact hunk_bare.mono _ _
   | exact hunk_run.mono _ _ _
   | exact LeO.none _
   | refine LeO.ite ?_ ?_
   | refine LeO.bind ?_ (fun _ => ?_)
theorem hunk_Edits.mono : ∀ a0 a1 a2 a3 a4 k, LeO (hunk_Edits.f k a0 a1 a2 a3 a4) (hunk_Edits.f (k + 1) a0 a1 a2 a3 a4) := by
 intro a0 a1 a2 a3 a4 k
 have ih0 := hunk_Edits.mono_l k
 unfold hunk_Edits.f
 repeat' first
   | (with_reducible exact ih0 _ _ _)
   | (with_reducible exact hunk_bare.mono _ _)
   | (with_reducible exact hunk_run.mono _ _ _)
   | (with_reducible exact LeO.refl _)
   | (with_reducible exact LeO.none _)
   | (with_reducible refine LeO.ite ?_ ?_)
   | (with_reducible refine LeO.bind ?_ (fun _ => ?_))
   | exact ih0 _ _ _
   | exact hunk_bare.mono _ _
   | exact hunk_run.mono _ _ _
   | exact LeO.none _
   | refine LeO.ite ?_ ?_
   | refine LeO.bind ?_ (fun _ => ?_)
set_option maxHeartbeats 8000000 in
set_option maxRecDepth 100000 in
theorem hunk_Edits.calls (k : Nat) (a0_0 : Int) (a0_1 : Int) (a0_2 : Int) (a0_3 : Int) (P0_4_ : Nat → Prop) (A0_4 : Option Addr) (c0_4 : Nat) (l0_4 : List ByteArray) (r : List (S51)) (w : World) (hs0_4 : Kd.V Kd.string 9 w w.heap.size (fun k_ => P0_4_ k_) (.slice A0_4 l0_4.length c0_4) l0_4) (h : hunk_Edits.f k a0_0 a0_1 a0_2 a0_3 l0_4 = some r) :
  Calls Try.prog 21 #[.agg #[.int .i64 a0_0, .int .i64 a0_1, .int .i64 a0_2, .int .i64 a0_3, .slice A0_4 l0_4.length c0_4]] w fun e w' => ∃ v0_ : Value, e = .returned (v0_) ∧ Kd.S k51 51 w' w.heap.size (fun k_ => (w.heap.size ≤ k_)) v0_ r ∧ Below w.heap.size w w' := by
 have hu33 := Try.underlying33
 have hu51 := Try.underlying51
 have HO0_4 := Aside0.mk (show Kd.V Kd.string 9 w w.heap.size (fun k_ => (P0_4_ k_ ∨ w.heap.size ≤ k_)) (.slice A0_4 l0_4.length c0_4) l0_4 from Kd.V_mono hs0_4 (fun k_ hk => .inl hk))
 have HB := Aside0.mk (Below.refl w.heap.size w)
 have H : (hunk_Edits.l0 k ([] : List (S51)) a0_0 l0_4) = some r := h
 clear h
 have H' := Aside0.mk H
 clear H
 go_enter Try.func21, Try.ntmps21
 go_wp2_with (first | ((with_reducible refine gate_dst (N := 1) rfl ?_); refine box_event ?hg (N := 1) ?hd (cs := #[.int .i64 a0_0, .int .i64 a0_1, .int .i64 a0_2, .int .i64 a0_3, .slice A0_4 l0_4.length c0_4]) (t := 33) ?hr ?_; (case hd => rfl); (case hg => rfl); (case hr => first | (go_simp; done) | (go_simp; rfl)); intro gb258 hg w2 hbox hb; have n0_ := Aside0.mk (Kd.V_below (Kd.V_elderB (by (with_reducible repeat (first | apply Kd.V_alloc | apply Kd.V_drewN | apply Kd.V_drew)); exact HO0_4.out) gb258 (Nat.le_of_eq hg.symm)) hb); have n1_ := Aside0.mk (below_step (by repeat (first | (with_reducible first | exact HB.out | apply below_alloc | apply pw_below_drewN | apply below_drew1) | exact HB.out)) hb); have n2_ := Aside0.mk (hbox); have n3_ := Aside0.mk ((by rw [hg]; exact (below_size (by repeat (first | (with_reducible first | exact HB.out | apply below_alloc | apply pw_below_drewN | apply below_drew1) | exact HB.out))) : w.heap.size ≤ gb258)); have n4_ := Aside0.mk ((by rw [hg]; exact (below_size (by repeat (first | (with_reducible first | exact HB.out | apply below_alloc | apply pw_below_drewN | apply below_drew1) | exact HB.out))) : w.heap.size ≤ gb258)); clear HO0_4; clear HB; have HO0_4 := n0_; have HB := n1_; have BK258 := n2_; have GW258 := n3_; have GE258 := n4_; clear n0_ n1_ n2_ n3_ n4_; clear hb hbox hg; have hcz3_0 : w2.cell? ⟨gb258, 0, none⟩ = some (.int .i64 a0_0) := (blk_cell BK258.out 0).trans rfl; have hcz3_1 : w2.cell? ⟨gb258, 1, none⟩ = some (.int .i64 a0_1) := (blk_cell BK258.out 1).trans rfl; have hcz3_2 : w2.cell? ⟨gb258, 2, none⟩ = some (.int .i64 a0_2) := (blk_cell BK258.out 2).trans rfl; have hcz3_3 : w2.cell? ⟨gb258, 3, none⟩ = some (.int .i64 a0_3) := (blk_cell BK258.out 3).trans rfl; have hcz3_4 : w2.cell? ⟨gb258, 4, none⟩ = some (.slice A0_4 l0_4.length c0_4) := (blk_cell BK258.out 4).trans rfl; have hfz3_0 := blk_frozen BK258.out 0; have hfz3_1 := blk_frozen BK258.out 1; have hfz3_2 := blk_frozen BK258.out 2; have hfz3_3 := blk_frozen BK258.out 3; have hfz3_4 := blk_frozen BK258.out 4))
 go_loopg [3, 4, 5] k (fun kq v3 v4 v5 w' => ∃ (x3_1 : List (S51)) (x4_1 : Int) (x5_1 : List ByteArray), v4 = .int .i64 x4_1 ∧ Aside0 (hunk_Edits.l0 kq x3_1 x4_1 x5_1 = some r) ∧ Aside0 (kq ≤ k) ∧ Aside0 (Kd.S k51 51 w' w.heap.size (fun k_ => (w.heap.size ≤ k_)) v3 x3_1) ∧ Aside0 (Kd.V Kd.string 9 w' w.heap.size (fun k_ => (P0_4_ k_ ∨ w.heap.size ≤ k_) ∧ some k_ ≠ (v3 : Value).ownBlock ∧ k_ ≠ gb258) v5 x5_1) ∧ Aside0 (Kd.V Kd.string 9 w' w.heap.size (fun k_ => (P0_4_ k_ ∨ w.heap.size ≤ k_) ∧ some k_ ≠ (v3 : Value).ownBlock ∧ k_ ≠ gb258) (.slice A0_4 l0_4.length c0_4) l0_4) ∧ Aside0 (w'.heap[gb258]? = some (.cells #[.int .i64 a0_0, .int .i64 a0_1, .int .i64 a0_2, .int .i64 a0_3, (.slice A0_4 l0_4.length c0_4)] 33 (0, 0))) ∧ Aside0 (Below w.heap.size w w'))
 case atStart => exact ⟨(([] : List (S51))), (a0_0), (l0_4), (by first | rfl | (simp; done) | (simp [*]; done)), H', ⟨Nat.le_refl _⟩, ⟨by first | exact Kd.S_nil _ _ _ _ _ | exact Kd.N_nil _ _ _ _ _ | exact Kd.V_nil _ _ _ _ _ | exact Kd.Q_nil _ _ _ _ _ | exact Kd.R_nil _ _ _ _ _⟩, ⟨by (with_reducible repeat (first | apply Kd.V_alloc | apply Kd.V_drewN | apply Kd.V_drew)); exact Kd.V_mono HO0_4.out (fun _ hk => ⟨hk.1, ⟨(by simp [Value.ownBlock]), hk.2⟩⟩)⟩, ⟨by (with_reducible repeat (first | apply Kd.V_alloc | apply Kd.V_drewN | apply Kd.V_drew)); exact Kd.V_mono HO0_4.out (fun _ hk => ⟨hk.1, ⟨(by simp [Value.ownBlock]), hk.2⟩⟩)⟩, ⟨by (with_reducible repeat (first | refine blk_drewN ?_ _ | refine blk_drew ?_ | refine blk_alloc ?_ _)); exact BK258.out⟩, ⟨by repeat (first | (with_reducible first | exact HB.out | apply below_alloc | apply pw_below_drewN | apply below_drew1 | refine below_set ?_ GE258.out) | exact HB.out)⟩⟩
 case round =>
  clear H'
  try clear c2
  try clear p2
  try clear hcz3_0
  try clear hcz3_1
  try clear hcz3_2
  try clear hcz3_3
  try clear hcz3_4
  try clear hfz3_0
  try clear hfz3_1
  try clear hfz3_2
  try clear hfz3_3
  try clear hfz3_4
  obtain ⟨x3_1, x4_1, x5_1, rfl, HA, HK1, HO_3, HO_5, HO_259004, BK258, HB⟩ := hrel
  cases gk with
  | zero => exact absurd HA.out (by simp [hunk_Edits.l0])
  | succ k1 =>
   have H := HA.out
   clear HA
   simp only [hunk_Edits.l0] at H
   by_cases c4 : (x5_1.length : Int) > 0
   ·rw [if_pos c4] at H
    have c4b0 : decide (0 < (x5_1.length : Int)) = true := decide_eq_true c4
    have c4b1 : decide (0 < x5_1.length) = true := decide_eq_true (by omega)
    clear c4
    replace H := Option.bind_eq_some_iff.mp H
    obtain ⟨t259, A50, H⟩ := H
    replace H : (if 0 ≤ t259 then (if t259 ≤ (x5_1.length : Int) then ((hunk_run.f k1 (x5_1.drop (t259 : Int).toNat) 45).bind fun t265 => (if 0 ≤ (wrap64 (t259 + t265)) then (if (wrap64 (t259 + t265)) ≤ (x5_1.length : Int) then ((hunk_run.f k1 (x5_1.drop ((wrap64 (t259 + t265)) : Int).toNat) 43).bind fun t271 => (if (wrap64 ((wrap64 (t259 + t265)) + t271)) > t259 then (if (wrap64 (t259 + t265)) ≤ (wrap64 ((wrap64 (t259 + t265)) + t271)) then (if (wrap64 ((wrap64 (t259 + t265)) + t271)) ≤ (x5_1.length : Int) then ((hunk_bare.f k1 ((x5_1.take ((wrap64 ((wrap64 (t259 + t265)) + t271)) : Int).toNat).drop ((wrap64 (t259 + t265)) : Int).toNat)).bind fun t277 => (if x3_1.length < 3518437208883 then (if 0 ≤ (wrap64 ((wrap64 (t259 + t265)) + t271)) then (hunk_Edits.l0 k1 (x3_1 ++ [(⟨wrap64 (x4_1 + t259), wrap64 ((wrap64 (t259 + t265)) - t259), t277⟩ : S51)]) (wrap64 (x4_1 + (wrap64 (t259 + t265)))) (x5_1.drop ((wrap64 ((wrap64 (t259 + t265)) + t271)) : Int).toNat)) else (none)) else (none))) else (none)) else (none)) else (if 0 ≤ (wrap64 ((wrap64 (t259 + t265)) + t271)) then (if (wrap64 ((wrap64 (t259 + t265)) + t271)) ≤ (x5_1.length : Int) then (hunk_Edits.l0 k1 x3_1 (wrap64 (x4_1 + (wrap64 (t259 + t265)))) (x5_1.drop ((wrap64 ((wrap64 (t259 + t265)) + t271)) : Int).toNat)) else (none)) else (none)))) else (none)) else (none))) else (none)) else (none)) = some r := H
    have A5 := Aside0.mk A50
    clear A50
    by_cases c6 : 0 ≤ t259
    ·rw [if_pos c6] at H
     have c6b0 := eq_true c6
     have c6b1 : decide (0 ≤ t259) = true := decide_eq_true c6
     clear c6
     by_cases c7 : t259 ≤ (x5_1.length : Int)
     ·rw [if_pos c7] at H
      have c7b0 := eq_true c7
      have c7b1 : decide (t259 ≤ (x5_1.length : Int)) = true := decide_eq_true c7
      clear c7
      obtain ⟨y260, hy260⟩ : ∃ y_ : List ByteArray, y_ = (x5_1.drop (t259 : Int).toNat) := ⟨_, rfl⟩
      replace H : ((hunk_run.f k1 y260 45).bind fun t265 => (if 0 ≤ (wrap64 (t259 + t265)) then (if (wrap64 (t259 + t265)) ≤ (x5_1.length : Int) then ((hunk_run.f k1 (x5_1.drop ((wrap64 (t259 + t265)) : Int).toNat) 43).bind fun t271 => (if (wrap64 ((wrap64 (t259 + t265)) + t271)) > t259 then (if (wrap64 (t259 + t265)) ≤ (wrap64 ((wrap64 (t259 + t265)) + t271)) then (if (wrap64 ((wrap64 (t259 + t265)) + t271)) ≤ (x5_1.length : Int) then ((hunk_bare.f k1 ((x5_1.take ((wrap64 ((wrap64 (t259 + t265)) + t271)) : Int).toNat).drop ((wrap64 (t259 + t265)) : Int).toNat)).bind fun t277 => (if x3_1.length < 3518437208883 then (if 0 ≤ (wrap64 ((wrap64 (t259 + t265)) + t271)) then (hunk_Edits.l0 k1 (x3_1 ++ [(⟨wrap64 (x4_1 + t259), wrap64 ((wrap64 (t259 + t265)) - t259), t277⟩ : S51)]) (wrap64 (x4_1 + (wrap64 (t259 + t265)))) (x5_1.drop ((wrap64 ((wrap64 (t259 + t265)) + t271)) : Int).toNat)) else (none)) else (none))) else (none)) else (none)) else (if 0 ≤ (wrap64 ((wrap64 (t259 + t265)) + t271)) then (if (wrap64 ((wrap64 (t259 + t265)) + t271)) ≤ (x5_1.length : Int) then (hunk_Edits.l0 k1 x3_1 (wrap64 (x4_1 + (wrap64 (t259 + t265)))) (x5_1.drop ((wrap64 ((wrap64 (t259 + t265)) + t271)) : Int).toNat)) else (none)) else (none)))) else (none)) else (none))) = some r := by first | (rw [hy260]; with_reducible exact H) | (have H2_ := (Option.bind_some _ _).symm.trans H; rw [hy260]; with_reducible exact H2_) | (have H2_ := (Option.bind_some _ _).symm.trans H; with_reducible exact H2_) | with_reducible exact H | (rw [hy260]; exact H) | exact H
      have Ny260 := Aside0.mk hy260
      clear hy260
      replace H := Option.bind_eq_some_iff.mp H
      obtain ⟨t265, A80, H⟩ := H
      replace H : (if 0 ≤ (wrap64 (t259 + t265)) then (if (wrap64 (t259 + t265)) ≤ (x5_1.length : Int) then ((hunk_run.f k1 (x5_1.drop ((wrap64 (t259 + t265)) : Int).toNat) 43).bind fun t271 => (if (wrap64 ((wrap64 (t259 + t265)) + t271)) > t259 then (if (wrap64 (t259 + t265)) ≤ (wrap64 ((wrap64 (t259 + t265)) + t271)) then (if (wrap64 ((wrap64 (t259 + t265)) + t271)) ≤ (x5_1.length : Int) then ((hunk_bare.f k1 ((x5_1.take ((wrap64 ((wrap64 (t259 + t265)) + t271)) : Int).toNat).drop ((wrap64 (t259 + t265)) : Int).toNat)).bind fun t277 => (if x3_1.length < 3518437208883 then (if 0 ≤ (wrap64 ((wrap64 (t259 + t265)) + t271)) then (hunk_Edits.l0 k1 (x3_1 ++ [(⟨wrap64 (x4_1 + t259), wrap64 ((wrap64 (t259 + t265)) - t259), t277⟩ : S51)]) (wrap64 (x4_1 + (wrap64 (t259 + t265)))) (x5_1.drop ((wrap64 ((wrap64 (t259 + t265)) + t271)) : Int).toNat)) else (none)) else (none))) else (none)) else (none)) else (if 0 ≤ (wrap64 ((wrap64 (t259 + t265)) + t271)) then (if (wrap64 ((wrap64 (t259 + t265)) + t271)) ≤ (x5_1.length : Int) then (hunk_Edits.l0 k1 x3_1 (wrap64 (x4_1 + (wrap64 (t259 + t265)))) (x5_1.drop ((wrap64 ((wrap64 (t259 + t265)) + t271)) : Int).toNat)) else (none)) else (none)))) else (none)) else (none)) = some r := H
      have A8 := Aside0.mk A80
      clear A80
      obtain ⟨ji9, hji9⟩ : ∃ j_ : Int, (wrap64 (t259 + t265)) = j_ := ⟨_, rfl⟩
      replace H : (if 0 ≤ (ji9) then (if (ji9) ≤ (x5_1.length : Int) then ((hunk_run.f k1 (x5_1.drop ((ji9) : Int).toNat) 43).bind fun t271 => (if (wrap64 ((ji9) + t271)) > t259 then (if (ji9) ≤ (wrap64 ((ji9) + t271)) then (if (wrap64 ((ji9) + t271)) ≤ (x5_1.length : Int) then ((hunk_bare.f k1 ((x5_1.take ((wrap64 ((ji9) + t271)) : Int).toNat).drop ((ji9) : Int).toNat)).bind fun t277 => (if x3_1.length < 3518437208883 then (if 0 ≤ (wrap64 ((ji9) + t271)) then (hunk_Edits.l0 k1 (x3_1 ++ [(⟨wrap64 (x4_1 + t259), wrap64 ((ji9) - t259), t277⟩ : S51)]) (wrap64 (x4_1 + (ji9))) (x5_1.drop ((wrap64 ((ji9) + t271)) : Int).toNat)) else (none)) else (none))) else (none)) else (none)) else (if 0 ≤ (wrap64 ((ji9) + t271)) then (if (wrap64 ((ji9) + t271)) ≤ (x5_1.length : Int) then (hunk_Edits.l0 k1 x3_1 (wrap64 (x4_1 + (ji9))) (x5_1.drop ((wrap64 ((ji9) + t271)) : Int).toNat)) else (none)) else (none)))) else (none)) else (none)) = some r := by first | (rw [hji9] at H; exact H) | (simp only [hji9] at H ⊢; exact H)
      (try rw [hji9] at A5)
      (try rw [hji9] at A8)
      have hji9w : (IntKind.i64.wrap (t259 + t265)) = ji9 := (i64_w _).trans hji9
      by_cases c10 : 0 ≤ (ji9)
      ·rw [if_pos c10] at H
       have c10b0 := eq_true c10
       have c10b1 : decide (0 ≤ (ji9)) = true := decide_eq_true c10
       clear c10
       by_cases c11 : (ji9) ≤ (x5_1.length : Int)
       ·rw [if_pos c11] at H
        have c11b0 := eq_true c11
        have c11b1 : decide ((ji9) ≤ (x5_1.length : Int)) = true := decide_eq_true c11
        clear c11
        obtain ⟨y266, hy266⟩ : ∃ y_ : List ByteArray, y_ = (x5_1.drop ((ji9) : Int).toNat) := ⟨_, rfl⟩
        replace H : ((hunk_run.f k1 y266 43).bind fun t271 => (if (wrap64 ((ji9) + t271)) > t259 then (if (ji9) ≤ (wrap64 ((ji9) + t271)) then (if (wrap64 ((ji9) + t271)) ≤ (x5_1.length : Int) then ((hunk_bare.f k1 ((x5_1.take ((wrap64 ((ji9) + t271)) : Int).toNat).drop ((ji9) : Int).toNat)).bind fun t277 => (if x3_1.length < 3518437208883 then (if 0 ≤ (wrap64 ((ji9) + t271)) then (hunk_Edits.l0 k1 (x3_1 ++ [(⟨wrap64 (x4_1 + t259), wrap64 ((ji9) - t259), t277⟩ : S51)]) (wrap64 (x4_1 + (ji9))) (x5_1.drop ((wrap64 ((ji9) + t271)) : Int).toNat)) else (none)) else (none))) else (none)) else (none)) else (if 0 ≤ (wrap64 ((ji9) + t271)) then (if (wrap64 ((ji9) + t271)) ≤ (x5_1.length : Int) then (hunk_Edits.l0 k1 x3_1 (wrap64 (x4_1 + (ji9))) (x5_1.drop ((wrap64 ((ji9) + t271)) : Int).toNat)) else (none)) else (none)))) = some r := by first | (rw [hy266]; with_reducible exact H) | (have H2_ := (Option.bind_some _ _).symm.trans H; rw [hy266]; with_reducible exact H2_) | (have H2_ := (Option.bind_some _ _).symm.trans H; with_reducible exact H2_) | with_reducible exact H | (rw [hy266]; exact H) | exact H
        have Ny266 := Aside0.mk hy266
        clear hy266
        replace H := Option.bind_eq_some_iff.mp H
        obtain ⟨t271, A120, H⟩ := H
        replace H : (if (wrap64 ((ji9) + t271)) > t259 then (if (ji9) ≤ (wrap64 ((ji9) + t271)) then (if (wrap64 ((ji9) + t271)) ≤ (x5_1.length : Int) then ((hunk_bare.f k1 ((x5_1.take ((wrap64 ((ji9) + t271)) : Int).toNat).drop ((ji9) : Int).toNat)).bind fun t277 => (if x3_1.length < 3518437208883 then (if 0 ≤ (wrap64 ((ji9) + t271)) then (hunk_Edits.l0 k1 (x3_1 ++ [(⟨wrap64 (x4_1 + t259), wrap64 ((ji9) - t259), t277⟩ : S51)]) (wrap64 (x4_1 + (ji9))) (x5_1.drop ((wrap64 ((ji9) + t271)) : Int).toNat)) else (none)) else (none))) else (none)) else (none)) else (if 0 ≤ (wrap64 ((ji9) + t271)) then (if (wrap64 ((ji9) + t271)) ≤ (x5_1.length : Int) then (hunk_Edits.l0 k1 x3_1 (wrap64 (x4_1 + (ji9))) (x5_1.drop ((wrap64 ((ji9) + t271)) : Int).toNat)) else (none)) else (none))) = some r := H
        have A12 := Aside0.mk A120
        clear A120
        by_cases c13 : (wrap64 ((ji9) + t271)) > t259
        ·rw [if_pos c13] at H
         have c13b0 : decide (t259 < (wrap64 ((ji9) + t271))) = true := decide_eq_true c13
         clear c13
         have c14b0 := eq_true (of_decide_eq_true (by first | (with_reducible assumption) | assumption) : 0 ≤ (ji9))
         by_cases c15 : (ji9) ≤ (wrap64 ((ji9) + t271))
         ·rw [if_pos c15] at H
          have c15b0 := eq_true c15
          have c15b1 : decide ((ji9) ≤ (wrap64 ((ji9) + t271))) = true := decide_eq_true c15
          by_cases c16 : (wrap64 ((ji9) + t271)) ≤ (x5_1.length : Int)
          ·rw [if_pos c16] at H
           have c16b0 := eq_true c16
           have c16b1 : decide ((wrap64 ((ji9) + t271)) ≤ (x5_1.length : Int)) = true := decide_eq_true c16
           obtain ⟨y272, hy272⟩ : ∃ y_ : List ByteArray, y_ = ((x5_1.take ((wrap64 ((ji9) + t271)) : Int).toNat).drop ((ji9) : Int).toNat) := ⟨_, rfl⟩
           replace H : ((hunk_bare.f k1 y272).bind fun t277 => (if x3_1.length < 3518437208883 then (if 0 ≤ (wrap64 ((ji9) + t271)) then (hunk_Edits.l0 k1 (x3_1 ++ [(⟨wrap64 (x4_1 + t259), wrap64 ((ji9) - t259), t277⟩ : S51)]) (wrap64 (x4_1 + (ji9))) (x5_1.drop ((wrap64 ((ji9) + t271)) : Int).toNat)) else (none)) else (none))) = some r := by first | (rw [hy272]; with_reducible exact H) | (have H2_ := (Option.bind_some _ _).symm.trans H; rw [hy272]; with_reducible exact H2_) | (have H2_ := (Option.bind_some _ _).symm.trans H; with_reducible exact H2_) | with_reducible exact H | (rw [hy272]; exact H) | exact H
           have Ny272 := Aside0.mk hy272
           clear hy272
           replace H := Option.bind_eq_some_iff.mp H
           obtain ⟨t277, A170, H⟩ := H
           replace H : (if x3_1.length < 3518437208883 then (if 0 ≤ (wrap64 ((ji9) + t271)) then (hunk_Edits.l0 k1 (x3_1 ++ [(⟨wrap64 (x4_1 + t259), wrap64 ((ji9) - t259), t277⟩ : S51)]) (wrap64 (x4_1 + (ji9))) (x5_1.drop ((wrap64 ((ji9) + t271)) : Int).toNat)) else (none)) else (none)) = some r := H
           have A17 := Aside0.mk A170
           clear A170
           by_cases c18 : x3_1.length < 3518437208883
           ·rw [if_pos c18] at H
            have LMc18 := Aside0.mk c18
            clear c18
            obtain ⟨y280, hy280⟩ : ∃ y_ : List (S51), y_ = (x3_1 ++ [(⟨wrap64 (x4_1 + t259), wrap64 ((ji9) - t259), t277⟩ : S51)]) := ⟨_, rfl⟩
            replace H : (if 0 ≤ (wrap64 ((ji9) + t271)) then (hunk_Edits.l0 k1 y280 (wrap64 (x4_1 + (ji9))) (x5_1.drop ((wrap64 ((ji9) + t271)) : Int).toNat)) else (none)) = some r := by first | (rw [hy280]; with_reducible exact H) | (have H2_ := (Option.bind_some _ _).symm.trans H; rw [hy280]; with_reducible exact H2_) | (have H2_ := (Option.bind_some _ _).symm.trans H; with_reducible exact H2_) | with_reducible exact H | (rw [hy280]; exact H) | exact H
            have Ny280 := Aside0.mk hy280
            clear hy280
            obtain ⟨ji19, hji19⟩ : ∃ j_ : Int, (wrap64 ((ji9) + t271)) = j_ := ⟨_, rfl⟩
            replace H : (if 0 ≤ (ji19) then (hunk_Edits.l0 k1 y280 (wrap64 (x4_1 + (ji9))) (x5_1.drop ((ji19) : Int).toNat)) else (none)) = some r := by first | (rw [hji19] at H; exact H) | (simp only [hji19] at H ⊢; exact H)
            (try rw [hji19] at c13b0)
            (try rw [hji19] at c15b0)
            (try rw [hji19] at c15b1)
            (try rw [hji19] at c15)
            (try rw [hji19] at c16b0)
            (try rw [hji19] at c16b1)
            (try rw [hji19] at c16)
            (try rw [hji19] at A5)
            (try rw [hji19] at A8)
            (try rw [hji19] at A12)
            (try rw [hji19] at Ny272)
            (try rw [hji19] at A17)
            have hji19w : (IntKind.i64.wrap ((ji9) + t271)) = ji19 := (i64_w _).trans hji19
            by_cases c20 : 0 ≤ (ji19)
            ·rw [if_pos c20] at H
             have c20b0 := eq_true c20
             have c20b1 : decide (0 ≤ (ji19)) = true := decide_eq_true c20
             clear c20
             have c21b0 := eq_true (of_decide_eq_true (by first | (with_reducible assumption) | assumption) : (ji19) ≤ (x5_1.length : Int))
             obtain ⟨y283, hy283⟩ : ∃ y_ : List ByteArray, y_ = (x5_1.drop ((ji19) : Int).toNat) := ⟨_, rfl⟩
             replace H : (hunk_Edits.l0 k1 y280 (wrap64 (x4_1 + (ji9))) y283) = some r := by first | (rw [hy283]; with_reducible exact H) | (have H2_ := (Option.bind_some _ _).symm.trans H; rw [hy283]; with_reducible exact H2_) | (have H2_ := (Option.bind_some _ _).symm.trans H; with_reducible exact H2_) | with_reducible exact H | (rw [hy283]; exact H) | exact H
             have Ny283 := Aside0.mk hy283
             clear hy283
             have H' := Aside0.mk H
             clear H
             obtain ⟨Ao22, co22, eo22⟩ := Kd.V_slice HO_5.out
             subst eo22
             go_wp2_with (first | ((with_reducible refine gate_callee (f := 33) rfl ?_); refine goesL_ (some 17) rfl rfl Try.func33 (by kernel_rfl) rfl #[.slice Ao22 x5_1.length co22, .int .u8 32] rfl (by (try simp only [List.map_toArray, List.map_cons, List.map_nil]); first | done | rfl | (simp only [List.length_drop, List.length_take]; rfl)) ?_; (with_reducible refine (hunk_run.calls k1 _ _ x5_1 32 t259 _ ?side1 ?side2 A5.out).mono ?_); (case side1 => repeat (first | exact (Kd.V_reads' HO_5.out).2.2 | (with_reducible refine Kd.C_alloc ?_ _) | (with_reducible refine Kd.C_drewN ?_ _) | (with_reducible refine Kd.C_drew ?_))); (case side2 => exact (Kd.V_reads' HO_5.out).2.1); rintro e w' ⟨rfl, ⟨nd, rfl⟩⟩; refine ⟨_, rfl, ?_⟩; have q23 : (t259 : Int) ≤ ((x5_1.length : Int) : Int) := of_decide_eq_true (by first | (with_reducible assumption) | assumption); obtain ⟨i023, hi023, _, hsz23, _⟩ := info_parts info9; have hroom23 : x5_1.length ≤ co22 := (Kd.V_reads' HO_5.out).2.1; have hC23 : Kd.F Kd.string _ _ Ao22 x5_1.length x5_1 := (Kd.V_at (base := w.heap.size) HO_5.out).2.2; have q023 : (0 : Int) ≤ (t259 : Int) := of_decide_eq_true (by first | (with_reducible assumption) | assumption); have hcut23 := cut_from (P := Try.prog) 22 9 .i64 Try.underlying22 hi023 1 hsz23 Ao22 x5_1.length co22 t259 q023 q23; have hr23 := Kd.F_cut (m := (t259 : Int).toNat) (c := co22) hC23 (by omega) hroom23; obtain ⟨A23, hA23⟩ : ∃ A1, A1 = (if co22 = (t259 : Int).toNat then Ao22 else (Ao22 : Option Addr).map (·.add ((t259 : Int).toNat * 1))) := ⟨_, rfl⟩; obtain ⟨c23, hc23⟩ : ∃ c1, c1 = co22 - (t259 : Int).toNat := ⟨_, rfl⟩; have hy23 : y260.length = x5_1.length - (t259 : Int).toNat := (by rw [Ny260.out, List.length_drop] <;> omega); rw [show (x5_1).drop (t259 : Int).toNat = y260 from Ny260.out.symm] at hr23; replace hr23 : Kd.F Kd.string _ _ A23 y260.length y260 := (by rw [hA23]; exact hr23); rw [← hy23, ← hA23, ← hc23] at hcut23; have HO264 := Aside0.mk (show Kd.V Kd.string 9 _ w.heap.size _ (.slice A23 y260.length c23) y260 from Kd.V_mk (by rw [hy23, hc23]; exact Nat.sub_le_sub_right hroom23 _) hr23); have HC264 := Aside0.mk (show y260.length ≤ c23 from by rw [hy23, hc23]; exact Nat.sub_le_sub_right hroom23 _); clear hr23 hC23 hroom23 hi023 hsz23 hc23; have KY23 := Aside0.mk hy23; have KA23 := Aside0.mk hA23; clear hy23 hA23; replace q23 := eq_true q23) | ((with_reducible refine gate_callee (f := 33) rfl ?_); refine goesL_ (some 22) rfl rfl Try.func33 (by kernel_rfl) rfl #[.slice A23 y260.length c23, .int .u8 45] rfl (by (try simp only [List.map_toArray, List.map_cons, List.map_nil]); first | done | rfl | (simp only [List.length_drop, List.length_take]; rfl)) ?_; (with_reducible refine (hunk_run.calls k1 _ _ y260 45 t265 _ ?side1 ?side2 A8.out).mono ?_); (case side1 => repeat (first | exact (Kd.V_reads' HO264.out).2.2 | (with_reducible refine Kd.C_alloc ?_ _) | (with_reducible refine Kd.C_drewN ?_ _) | (with_reducible refine Kd.C_drew ?_))); (case side2 => exact (Kd.V_reads' HO264.out).2.1); rintro e w' ⟨rfl, ⟨nd, rfl⟩⟩; refine ⟨_, rfl, ?_⟩; have q24 : ((ji9) : Int) ≤ ((x5_1.length : Int) : Int) := of_decide_eq_true (by first | (with_reducible assumption) | assumption); obtain ⟨i024, hi024, _, hsz24, _⟩ := info_parts info9; have hroom24 : x5_1.length ≤ co22 := (Kd.V_reads' HO_5.out).2.1; have hC24 : Kd.F Kd.string _ _ Ao22 x5_1.length x5_1 := (Kd.V_at (base := w.heap.size) HO_5.out).2.2; have q024 : (0 : Int) ≤ ((ji9) : Int) := of_decide_eq_true (by first | (with_reducible assumption) | assumption); have hcut24 := cut_from (P := Try.prog) 22 9 .i64 Try.underlying22 hi024 1 hsz24 Ao22 x5_1.length co22 (ji9) q024 q24; have hr24 := Kd.F_cut (m := ((ji9) : Int).toNat) (c := co22) hC24 (by omega) hroom24; obtain ⟨A24, hA24⟩ : ∃ A1, A1 = (if co22 = ((ji9) : Int).toNat then Ao22 else (Ao22 : Option Addr).map (·.add (((ji9) : Int).toNat * 1))) := ⟨_, rfl⟩; obtain ⟨c24, hc24⟩ : ∃ c1, c1 = co22 - ((ji9) : Int).toNat := ⟨_, rfl⟩; have hy24 : y266.length = x5_1.length - ((ji9) : Int).toNat := (by rw [Ny266.out, List.length_drop] <;> omega); rw [show (x5_1).drop ((ji9) : Int).toNat = y266 from Ny266.out.symm] at hr24; replace hr24 : Kd.F Kd.string _ _ A24 y266.length y266 := (by rw [hA24]; exact hr24); rw [← hy24, ← hA24, ← hc24] at hcut24; have HO270 := Aside0.mk (show Kd.V Kd.string 9 _ w.heap.size _ (.slice A24 y266.length c24) y266 from Kd.V_mk (by rw [hy24, hc24]; exact Nat.sub_le_sub_right hroom24 _) hr24); have HC270 := Aside0.mk (show y266.length ≤ c24 from by rw [hy24, hc24]; exact Nat.sub_le_sub_right hroom24 _); clear hr24 hC24 hroom24 hi024 hsz24 hc24; have KY24 := Aside0.mk hy24; have KA24 := Aside0.mk hA24; clear hy24 hA24; replace q24 := eq_true q24) | ((with_reducible refine gate_callee (f := 33) rfl ?_); refine goesL_ (some 28) rfl rfl Try.func33 (by kernel_rfl) rfl #[.slice A24 y266.length c24, .int .u8 43] rfl (by (try simp only [List.map_toArray, List.map_cons, List.map_nil]); first | done | rfl | (simp only [List.length_drop, List.length_take]; rfl)) ?_; (with_reducible refine (hunk_run.calls k1 _ _ y266 43 t271 _ ?side1 ?side2 A12.out).mono ?_); (case side1 => repeat (first | exact (Kd.V_reads' HO270.out).2.2 | (with_reducible refine Kd.C_alloc ?_ _) | (with_reducible refine Kd.C_drewN ?_ _) | (with_reducible refine Kd.C_drew ?_))); (case side2 => exact (Kd.V_reads' HO270.out).2.1); rintro e w' ⟨rfl, ⟨nd, rfl⟩⟩; refine ⟨_, rfl, ?_⟩; have q25 : ((ji19) : Int) ≤ ((x5_1.length : Int) : Int) := of_decide_eq_true (by first | (with_reducible assumption) | assumption); obtain ⟨i025, hi025, _, hsz25, _⟩ := info_parts info9; have hroom25 : x5_1.length ≤ co22 := (Kd.V_reads' HO_5.out).2.1; have hC25 : Kd.F Kd.string _ _ Ao22 x5_1.length x5_1 := (Kd.V_at (base := w.heap.size) HO_5.out).2.2; have ql25 : ((ji9) : Int) ≤ ((ji19) : Int) := of_decide_eq_true (by first | (with_reducible assumption) | assumption); have q025 : (0 : Int) ≤ ((ji9) : Int) := of_decide_eq_true (by first | (with_reducible assumption) | assumption); have hcut25 := cut_mid (P := Try.prog) 22 9 .i64 .i64 Try.underlying22 hi025 1 hsz25 Ao22 x5_1.length co22 (ji9) (ji19) q025 ql25 q25 hroom25; have hr25 := Kd.F_mid (lo := ((ji9) : Int).toNat) (hi := ((ji19) : Int).toNat) (c := co22) hC25 (by omega) (by omega) hroom25; obtain ⟨A25, hA25⟩ : ∃ A1, A1 = (if co22 = ((ji9) : Int).toNat then Ao22 else (Ao22 : Option Addr).map (·.add (((ji9) : Int).toNat * 1))) := ⟨_, rfl⟩; obtain ⟨c25, hc25⟩ : ∃ c1, c1 = co22 - ((ji9) : Int).toNat := ⟨_, rfl⟩; have hy25 : y272.length = ((ji19) : Int).toNat - ((ji9) : Int).toNat := (by rw [Ny272.out, List.length_drop, List.length_take] <;> omega); rw [show ((x5_1).take ((ji19) : Int).toNat).drop ((ji9) : Int).toNat = y272 from Ny272.out.symm] at hr25; replace hr25 : Kd.F Kd.string _ _ A25 y272.length y272 := (by rw [hA25]; exact hr25); rw [← hy25, ← hA25, ← hc25] at hcut25; have HO276 := Aside0.mk (show Kd.V Kd.string 9 _ w.heap.size _ (.slice A25 y272.length c25) y272 from Kd.V_mk (by rw [hy25, hc25]; exact Nat.sub_le_sub_right (Nat.le_trans (by omega) hroom25) _) hr25); have HC276 := Aside0.mk (show y272.length ≤ c25 from by rw [hy25, hc25]; exact Nat.sub_le_sub_right (Nat.le_trans (by omega) hroom25) _); clear hr25 hC25 hroom25 hi025 hsz25 hc25; have KY25 := Aside0.mk hy25; have KA25 := Aside0.mk hA25; clear hy25 hA25; replace q25 := eq_true q25) | ((with_reducible refine gate_callee (f := 36) rfl ?_); refine goesL_ (some 44) rfl rfl Try.func36 (by kernel_rfl) rfl #[.slice A25 y272.length c25] rfl (by (try simp only [List.map_toArray, List.map_cons, List.map_nil]); first | done | rfl | (simp only [List.length_drop, List.length_take]; rfl)) ?_; (with_reducible refine (hunk_bare.calls k1 _ _ y272 t277 _ ?side1 ?side2 A17.out).mono ?_); (case side1 => repeat (first | exact (Kd.V_reads' HO276.out).2.2 | (with_reducible refine Kd.C_alloc ?_ _) | (with_reducible refine Kd.C_drewN ?_ _) | (with_reducible refine Kd.C_drew ?_))); (case side2 => exact (Kd.V_reads' HO276.out).2.1); rintro e w26 ⟨v278, rfl, ho0, hb⟩; refine ⟨_, rfl, ?_⟩; have n0_ := Aside0.mk (Kd.S_elder' (by (with_reducible repeat (first | apply Kd.S_alloc | apply Kd.S_drewN | apply Kd.S_drew)); exact HO_3.out) (Kd.R_base ho0) hb); have n1_ := Aside0.mk (Kd.V_elder' (by (with_reducible repeat (first | apply Kd.V_alloc | apply Kd.V_drewN | apply Kd.V_drew)); exact HO_5.out) (Kd.R_base ho0) hb); have n2_ := Aside0.mk (Kd.V_elder' (by (with_reducible repeat (first | apply Kd.V_alloc | apply Kd.V_drewN | apply Kd.V_drew)); exact HO_259004.out) (Kd.R_base ho0) hb); have n3_ := Aside0.mk (Kd.V_elder' (by (with_reducible repeat (first | apply Kd.V_alloc | apply Kd.V_drewN | apply Kd.V_drew)); exact HO264.out) (Kd.R_base ho0) hb); have n4_ := Aside0.mk (Kd.V_elder' (by (with_reducible repeat (first | apply Kd.V_alloc | apply Kd.V_drewN | apply Kd.V_drew)); exact HO270.out) (Kd.R_base ho0) hb); have n5_ := Aside0.mk (Kd.V_elder' (by (with_reducible repeat (first | apply Kd.V_alloc | apply Kd.V_drewN | apply Kd.V_drew)); exact HO276.out) (Kd.R_base ho0) hb); have n6_ := Aside0.mk (Kd.R_lower (Kd.R_newM (M := fun k_ => (w.heap.size ≤ k_)) ho0 (below_size (by repeat (first | (with_reducible first | exact HB.out | apply below_alloc | apply pw_below_drewN | apply below_drew1 | refine below_set ?_ GE258.out) | exact HB.out))) (fun k_ h_ => h_)) (below_size (by repeat (first | (with_reducible first | exact HB.out | apply below_alloc | apply pw_below_drewN | apply below_drew1 | refine below_set ?_ GE258.out) | exact HB.out)))); have n7_ := Aside0.mk (blk_below (g := gb258) (o := .cells #[.int .i64 a0_0, .int .i64 a0_1, .int .i64 a0_2, .int .i64 a0_3, .slice A0_4 l0_4.length c0_4] 33 (0, 0)) (by (with_reducible repeat (first | refine blk_drewN ?_ _ | refine blk_drew ?_ | refine blk_alloc ?_ _)); exact BK258.out) hb); have n8_ := Aside0.mk (below_step (by repeat (first | (with_reducible first | exact HB.out | apply below_alloc | apply pw_below_drewN | apply below_drew1 | refine below_set ?_ GE258.out) | exact HB.out)) hb); clear HO_3; clear HO_5; clear HO_259004; clear HO264; clear HO270; clear HO276; clear BK258; clear HB; have HO_3 := n0_; have HO_5 := n1_; have HO_259004 := n2_; have HO264 := n3_; have HO270 := n4_; have HO276 := n5_; have HO279 := n6_; have BK258 := n7_; have HB := n8_; clear n0_ n1_ n2_ n3_ n4_ n5_ n6_ n7_ n8_; (try clear hb); (try clear hb2); (try clear hk); (try clear hi); (try clear ho0); obtain ⟨Ao27, co27, eo27⟩ := Kd.R_slice HO279.out; subst eo27) | ((with_reducible refine gate_builtin (b := .append) (xs := #[.tmp 33, .tmp 46]) rfl ?_); at_builtin; refine Kd.S_append k51 (w0 := w) w.heap.size rfl (.tmp 33) (.tmp 46) 23 51 (.agg #[(.int .i64 0), (.int .i64 0), (.slice none 0 0)]) 40 rfl Try.underlying23 info51 rfl (by decide) (by omega) u3 x3_1 (⟨wrap64 (x4_1 + t259), wrap64 ((ji9) - t259), t277⟩ : S51) [.int .i64 (wrap64 (x4_1 + t259)), .int .i64 (wrap64 ((ji9) - t259)), .slice Ao27 t277.length co27] (fun k_ => (w.heap.size ≤ k_)) (fun k_ => some k_ = (.slice Ao27 t277.length co27 : Value).ownBlock) rfl rfl ?aP (fun k_ hk_ => ((Kd.R_mono (ok' := fun k_ => ((fun k_ => (w.heap.size ≤ k_))) k_ ∧ some k_ ≠ (u3 : Value).ownBlock) (Kd.R_apart' (HO279.out) (Kd.S_typed HO_3.out) (by decide)) (fun k_ hk => ⟨hk.1.1, hk.2⟩))).1 k_ hk_.symm) ?aF ?aO ?aB ?aS ?aL ?_; (case aP => exact k51_mkM _ _ _ (⟨wrap64 (x4_1 + t259), wrap64 ((ji9) - t259), t277⟩ : S51) (Kd.R_mono (Kd.R_tight rfl (Kd.R_mono (ok' := fun k_ => ((fun k_ => (w.heap.size ≤ k_))) k_ ∧ some k_ ≠ (u3 : Value).ownBlock) (Kd.R_apart' (HO279.out) (Kd.S_typed HO_3.out) (by decide)) (fun k_ hk => ⟨hk.1.1, hk.2⟩))) (fun _ h_ => h_))); (case aB => exact (by repeat (first | (with_reducible first | exact HB.out | apply below_alloc | apply pw_below_drewN | apply below_drew1 | refine below_set ?_ GE258.out) | exact HB.out))); (case aF => exact (fun k_ hk => (Nat.le_trans (below_size (by repeat (first | (with_reducible first | exact HB.out | apply below_alloc | apply pw_below_drewN | apply below_drew1 | refine below_set ?_ GE258.out) | exact HB.out))) hk))); (case aO => exact (by (with_reducible repeat (first | apply Kd.S_alloc | apply Kd.S_drewN | apply Kd.S_drew)); exact Kd.S_mono HO_3.out (fun k_ hk => ⟨hk.1, fun e_ => hk.2 e_⟩))); (case aS => exact (below_size (by repeat (first | (with_reducible first | exact HB.out | apply below_alloc | apply pw_below_drewN | apply below_drew1 | refine below_set ?_ GE258.out) | exact HB.out)))); (case aL => have := LMc18.out; omega); intro v281 w28 ho hb hg hat; rw [← Ny280.out] at ho; have n0_ := Aside0.mk (Kd.V_afterv (ok := (fun k_ => (P0_4_ k_ ∨ w.heap.size ≤ k_) ∧ some k_ ≠ (.slice Ao27 t277.length co27 : Value).ownBlock ∧ k_ ≠ gb258)) (by (with_reducible repeat (first | apply Kd.V_alloc | apply Kd.V_drewN | apply Kd.V_drew)); exact Kd.V_mono HO_5.out (fun _ hk => ⟨⟨hk.1.1, ⟨hk.2, hk.1.2.2⟩⟩, hk.1.2.1⟩)) hg hat); have n1_ := Aside0.mk (Kd.V_afterv (ok := (fun k_ => (P0_4_ k_ ∨ w.heap.size ≤ k_) ∧ some k_ ≠ (.slice Ao27 t277.length co27 : Value).ownBlock ∧ k_ ≠ gb258)) (by (with_reducible repeat (first | apply Kd.V_alloc | apply Kd.V_drewN | apply Kd.V_drew)); exact Kd.V_mono HO_259004.out (fun _ hk => ⟨⟨hk.1.1, ⟨hk.2, hk.1.2.2⟩⟩, hk.1.2.1⟩)) hg hat); have n2_ := Aside0.mk (blk_grown (g := gb258) (o := .cells #[.int .i64 a0_0, .int .i64 a0_1, .int .i64 a0_2, .int .i64 a0_3, .slice A0_4 l0_4.length c0_4] 33 (0, 0)) (by (with_reducible repeat (first | refine blk_drewN ?_ _ | refine blk_drew ?_ | refine blk_alloc ?_ _)); exact BK258.out) hg (Kd.S_ne HO_3.out BK258.out (by decide))); have n3_ := Aside0.mk (Kd.V_afterv (ok := (fun k_ => (P0_4_ k_ ∨ w.heap.size ≤ k_) ∧ some k_ ≠ (.slice Ao27 t277.length co27 : Value).ownBlock ∧ k_ ≠ gb258)) (by (with_reducible repeat (first | apply Kd.V_alloc | apply Kd.V_drewN | apply Kd.V_drew)); exact Kd.V_mono HO264.out (fun _ hk => ⟨⟨hk.1.1, ⟨hk.2, hk.1.2.2⟩⟩, hk.1.2.1⟩)) hg hat); have n4_ := Aside0.mk (Kd.V_afterv (ok := (fun k_ => (P0_4_ k_ ∨ w.heap.size ≤ k_) ∧ some k_ ≠ (.slice Ao27 t277.length co27 : Value).ownBlock ∧ k_ ≠ gb258)) (by (with_reducible repeat (first | apply Kd.V_alloc | apply Kd.V_drewN | apply Kd.V_drew)); exact Kd.V_mono HO270.out (fun _ hk => ⟨⟨hk.1.1, ⟨hk.2, hk.1.2.2⟩⟩, hk.1.2.1⟩)) hg hat); have n5_ := Aside0.mk (Kd.V_afterv (ok := (fun k_ => (P0_4_ k_ ∨ w.heap.size ≤ k_) ∧ some k_ ≠ (.slice Ao27 t277.length co27 : Value).ownBlock ∧ k_ ≠ gb258)) (by (with_reducible repeat (first | apply Kd.V_alloc | apply Kd.V_drewN | apply Kd.V_drew)); exact Kd.V_mono HO276.out (fun _ hk => ⟨⟨hk.1.1, ⟨hk.2, hk.1.2.2⟩⟩, hk.1.2.1⟩)) hg hat); have n6_ := Aside0.mk (hb); have n7_ := Aside0.mk (ho); clear HO_5; clear HO_259004; clear BK258; clear HO264; clear HO270; clear HO276; clear HB; clear HO_3; clear HO279; have HO_5 := n0_; have HO_259004 := n1_; have BK258 := n2_; have HO264 := n3_; have HO270 := n4_; have HO276 := n5_; have HB := n6_; have HO282 := n7_; clear n0_ n1_ n2_ n3_ n4_ n5_ n6_ n7_; clear ho hb hg hat; have q29 : ((ji19) : Int) ≤ ((x5_1.length : Int) : Int) := of_decide_eq_true (by first | (with_reducible assumption) | assumption); obtain ⟨i029, hi029, _, hsz29, _⟩ := info_parts info9; have hroom29 : x5_1.length ≤ co22 := (Kd.V_reads' HO_5.out).2.1; have hC29 : Kd.F Kd.string _ _ Ao22 x5_1.length x5_1 := (Kd.V_at (base := w.heap.size) HO_5.out).2.2; have q029 : (0 : Int) ≤ ((ji19) : Int) := of_decide_eq_true (by first | (with_reducible assumption) | assumption); have hcut29 := cut_from (P := Try.prog) 22 9 .i64 Try.underlying22 hi029 1 hsz29 Ao22 x5_1.length co22 (ji19) q029 q29; have hr29 := Kd.F_cut (m := ((ji19) : Int).toNat) (c := co22) hC29 (by omega) hroom29; obtain ⟨A29, hA29⟩ : ∃ A1, A1 = (if co22 = ((ji19) : Int).toNat then Ao22 else (Ao22 : Option Addr).map (·.add (((ji19) : Int).toNat * 1))) := ⟨_, rfl⟩; obtain ⟨c29, hc29⟩ : ∃ c1, c1 = co22 - ((ji19) : Int).toNat := ⟨_, rfl⟩; have hy29 : y283.length = x5_1.length - ((ji19) : Int).toNat := (by rw [Ny283.out, List.length_drop] <;> omega); rw [show (x5_1).drop ((ji19) : Int).toNat = y283 from Ny283.out.symm] at hr29; replace hr29 : Kd.F Kd.string _ _ A29 y283.length y283 := (by rw [hA29]; exact hr29); rw [← hy29, ← hA29, ← hc29] at hcut29; have HO287 := Aside0.mk (show Kd.V Kd.string 9 _ w.heap.size _ (.slice A29 y283.length c29) y283 from Kd.V_mk (by rw [hy29, hc29]; exact Nat.sub_le_sub_right hroom29 _) hr29); have HC287 := Aside0.mk (show y283.length ≤ c29 from by rw [hy29, hc29]; exact Nat.sub_le_sub_right hroom29 _); clear hr29 hC29 hroom29 hi029 hsz29 hc29; have KY29 := Aside0.mk hy29; have KA29 := Aside0.mk hA29; clear hy29 hA29; replace q29 := eq_true q29))
             go_roundg k1
             case measure => have := HK1.out; omega
             case rel => exact ⟨(y280), (wrap64 (x4_1 + (ji9))), (y283), (by first | rfl | (simp; done) | (simp only [← hji9] <;> (first | rfl | simp)) | (simp [*]; done)), H', ⟨by have := HK1.out; omega⟩, ⟨by (with_reducible repeat (first | apply Kd.S_alloc | apply Kd.S_drewN | apply Kd.S_drew)); exact HO282.out⟩, ⟨by (with_reducible repeat (first | apply Kd.V_alloc | apply Kd.V_drewN | apply Kd.V_drew)); exact Kd.V_mono HO287.out (fun _ hk => ⟨hk.1.1, ⟨hk.2, hk.1.2.2⟩⟩)⟩, ⟨by (with_reducible repeat (first | apply Kd.V_alloc | apply Kd.V_drewN | apply Kd.V_drew)); exact Kd.V_mono HO_259004.out (fun _ hk => ⟨hk.1.1, ⟨hk.2, hk.1.2.2⟩⟩)⟩, ⟨by (with_reducible repeat (first | refine blk_drewN ?_ _ | refine blk_drew ?_ | refine blk_alloc ?_ _)); exact BK258.out⟩, ⟨by repeat (first | (with_reducible first | exact HB.out | apply below_alloc | apply pw_below_drewN | apply below_drew1 | refine below_set ?_ GE258.out) | exact HB.out)⟩⟩
            ·rw [if_neg c20] at H
             exact absurd H (by simp)
           ·rw [if_neg c18] at H
            exact absurd H (by simp)
          ·rw [if_neg c16] at H
           exact absurd H (by simp)
         ·rw [if_neg c15] at H
          exact absurd H (by simp)
        ·rw [if_neg c13] at H
         have c13b0 : decide (t259 < (wrap64 ((ji9) + t271))) = false := decide_eq_false c13
         clear c13
         try clear hji19w
         obtain ⟨ji30, hji30⟩ : ∃ j_ : Int, (wrap64 ((ji9) + t271)) = j_ := ⟨_, rfl⟩
         replace H : (if 0 ≤ (ji30) then (if (ji30) ≤ (x5_1.length : Int) then (hunk_Edits.l0 k1 x3_1 (wrap64 (x4_1 + (ji9))) (x5_1.drop ((ji30) : Int).toNat)) else (none)) else (none)) = some r := by first | (rw [hji30] at H; exact H) | (simp only [hji30] at H ⊢; exact H)
         (try rw [hji30] at c13b0)
         (try rw [hji30] at A5)
         (try rw [hji30] at A8)
         (try rw [hji30] at A12)
         have hji30w : (IntKind.i64.wrap ((ji9) + t271)) = ji30 := (i64_w _).trans hji30
         by_cases c31 : 0 ≤ (ji30)
         ·rw [if_pos c31] at H
          have c31b0 := eq_true c31
          have c31b1 : decide (0 ≤ (ji30)) = true := decide_eq_true c31
          clear c31
          by_cases c32 : (ji30) ≤ (x5_1.length : Int)
          ·rw [if_pos c32] at H
           have c32b0 := eq_true c32
           have c32b1 : decide ((ji30) ≤ (x5_1.length : Int)) = true := decide_eq_true c32
           clear c32
           obtain ⟨y288, hy288⟩ : ∃ y_ : List ByteArray, y_ = (x5_1.drop ((ji30) : Int).toNat) := ⟨_, rfl⟩
           replace H : (hunk_Edits.l0 k1 x3_1 (wrap64 (x4_1 + (ji9))) y288) = some r := by first | (rw [hy288]; with_reducible exact H) | (have H2_ := (Option.bind_some _ _).symm.trans H; rw [hy288]; with_reducible exact H2_) | (have H2_ := (Option.bind_some _ _).symm.trans H; with_reducible exact H2_) | with_reducible exact H | (rw [hy288]; exact H) | exact H
           have Ny288 := Aside0.mk hy288
           clear hy288
           have H' := Aside0.mk H
           clear H
           obtain ⟨Ao33, co33, eo33⟩ := Kd.V_slice HO_5.out
           subst eo33
           go_wp2_with (first | ((with_reducible refine gate_callee (f := 33) rfl ?_); refine goesL_ (some 17) rfl rfl Try.func33 (by kernel_rfl) rfl #[.slice Ao33 x5_1.length co33, .int .u8 32] rfl (by (try simp only [List.map_toArray, List.map_cons, List.map_nil]); first | done | rfl | (simp only [List.length_drop, List.length_take]; rfl)) ?_; (with_reducible refine (hunk_run.calls k1 _ _ x5_1 32 t259 _ ?side1 ?side2 A5.out).mono ?_); (case side1 => repeat (first | exact (Kd.V_reads' HO_5.out).2.2 | (with_reducible refine Kd.C_alloc ?_ _) | (with_reducible refine Kd.C_drewN ?_ _) | (with_reducible refine Kd.C_drew ?_))); (case side2 => exact (Kd.V_reads' HO_5.out).2.1); rintro e w' ⟨rfl, ⟨nd, rfl⟩⟩; refine ⟨_, rfl, ?_⟩; have q34 : (t259 : Int) ≤ ((x5_1.length : Int) : Int) := of_decide_eq_true (by first | (with_reducible assumption) | assumption); obtain ⟨i034, hi034, _, hsz34, _⟩ := info_parts info9; have hroom34 : x5_1.length ≤ co33 := (Kd.V_reads' HO_5.out).2.1; have hC34 : Kd.F Kd.string _ _ Ao33 x5_1.length x5_1 := (Kd.V_at (base := w.heap.size) HO_5.out).2.2; have q034 : (0 : Int) ≤ (t259 : Int) := of_decide_eq_true (by first | (with_reducible assumption) | assumption); have hcut34 := cut_from (P := Try.prog) 22 9 .i64 Try.underlying22 hi034 1 hsz34 Ao33 x5_1.length co33 t259 q034 q34; have hr34 := Kd.F_cut (m := (t259 : Int).toNat) (c := co33) hC34 (by omega) hroom34; obtain ⟨A34, hA34⟩ : ∃ A1, A1 = (if co33 = (t259 : Int).toNat then Ao33 else (Ao33 : Option Addr).map (·.add ((t259 : Int).toNat * 1))) := ⟨_, rfl⟩; obtain ⟨c34, hc34⟩ : ∃ c1, c1 = co33 - (t259 : Int).toNat := ⟨_, rfl⟩; have hy34 : y260.length = x5_1.length - (t259 : Int).toNat := (by rw [Ny260.out, List.length_drop] <;> omega); rw [show (x5_1).drop (t259 : Int).toNat = y260 from Ny260.out.symm] at hr34; replace hr34 : Kd.F Kd.string _ _ A34 y260.length y260 := (by rw [hA34]; exact hr34); rw [← hy34, ← hA34, ← hc34] at hcut34; have HO264 := Aside0.mk (show Kd.V Kd.string 9 _ w.heap.size _ (.slice A34 y260.length c34) y260 from Kd.V_mk (by rw [hy34, hc34]; exact Nat.sub_le_sub_right hroom34 _) hr34); have HC264 := Aside0.mk (show y260.length ≤ c34 from by rw [hy34, hc34]; exact Nat.sub_le_sub_right hroom34 _); clear hr34 hC34 hroom34 hi034 hsz34 hc34; have KY34 := Aside0.mk hy34; have KA34 := Aside0.mk hA34; clear hy34 hA34; replace q34 := eq_true q34) | ((with_reducible refine gate_callee (f := 33) rfl ?_); refine goesL_ (some 22) rfl rfl Try.func33 (by kernel_rfl) rfl #[.slice A34 y260.length c34, .int .u8 45] rfl (by (try simp only [List.map_toArray, List.map_cons, List.map_nil]); first | done | rfl | (simp only [List.length_drop, List.length_take]; rfl)) ?_; (with_reducible refine (hunk_run.calls k1 _ _ y260 45 t265 _ ?side1 ?side2 A8.out).mono ?_); (case side1 => repeat (first | exact (Kd.V_reads' HO264.out).2.2 | (with_reducible refine Kd.C_alloc ?_ _) | (with_reducible refine Kd.C_drewN ?_ _) | (with_reducible refine Kd.C_drew ?_))); (case side2 => exact (Kd.V_reads' HO264.out).2.1); rintro e w' ⟨rfl, ⟨nd, rfl⟩⟩; refine ⟨_, rfl, ?_⟩; have q35 : ((ji9) : Int) ≤ ((x5_1.length : Int) : Int) := of_decide_eq_true (by first | (with_reducible assumption) | assumption); obtain ⟨i035, hi035, _, hsz35, _⟩ := info_parts info9; have hroom35 : x5_1.length ≤ co33 := (Kd.V_reads' HO_5.out).2.1; have hC35 : Kd.F Kd.string _ _ Ao33 x5_1.length x5_1 := (Kd.V_at (base := w.heap.size) HO_5.out).2.2; have q035 : (0 : Int) ≤ ((ji9) : Int) := of_decide_eq_true (by first | (with_reducible assumption) | assumption); have hcut35 := cut_from (P := Try.prog) 22 9 .i64 Try.underlying22 hi035 1 hsz35 Ao33 x5_1.length co33 (ji9) q035 q35; have hr35 := Kd.F_cut (m := ((ji9) : Int).toNat) (c := co33) hC35 (by omega) hroom35; obtain ⟨A35, hA35⟩ : ∃ A1, A1 = (if co33 = ((ji9) : Int).toNat then Ao33 else (Ao33 : Option Addr).map (·.add (((ji9) : Int).toNat * 1))) := ⟨_, rfl⟩; obtain ⟨c35, hc35⟩ : ∃ c1, c1 = co33 - ((ji9) : Int).toNat := ⟨_, rfl⟩; have hy35 : y266.length = x5_1.length - ((ji9) : Int).toNat := (by rw [Ny266.out, List.length_drop] <;> omega); rw [show (x5_1).drop ((ji9) : Int).toNat = y266 from Ny266.out.symm] at hr35; replace hr35 : Kd.F Kd.string _ _ A35 y266.length y266 := (by rw [hA35]; exact hr35); rw [← hy35, ← hA35, ← hc35] at hcut35; have HO270 := Aside0.mk (show Kd.V Kd.string 9 _ w.heap.size _ (.slice A35 y266.length c35) y266 from Kd.V_mk (by rw [hy35, hc35]; exact Nat.sub_le_sub_right hroom35 _) hr35); have HC270 := Aside0.mk (show y266.length ≤ c35 from by rw [hy35, hc35]; exact Nat.sub_le_sub_right hroom35 _); clear hr35 hC35 hroom35 hi035 hsz35 hc35; have KY35 := Aside0.mk hy35; have KA35 := Aside0.mk hA35; clear hy35 hA35; replace q35 := eq_true q35) | ((with_reducible refine gate_callee (f := 33) rfl ?_); refine goesL_ (some 28) rfl rfl Try.func33 (by kernel_rfl) rfl #[.slice A35 y266.length c35, .int .u8 43] rfl (by (try simp only [List.map_toArray, List.map_cons, List.map_nil]); first | done | rfl | (simp only [List.length_drop, List.length_take]; rfl)) ?_; (with_reducible refine (hunk_run.calls k1 _ _ y266 43 t271 _ ?side1 ?side2 A12.out).mono ?_); (case side1 => repeat (first | exact (Kd.V_reads' HO270.out).2.2 | (with_reducible refine Kd.C_alloc ?_ _) | (with_reducible refine Kd.C_drewN ?_ _) | (with_reducible refine Kd.C_drew ?_))); (case side2 => exact (Kd.V_reads' HO270.out).2.1); rintro e w' ⟨rfl, ⟨nd, rfl⟩⟩; refine ⟨_, rfl, ?_⟩; have q36 : ((ji30) : Int) ≤ ((x5_1.length : Int) : Int) := of_decide_eq_true (by first | (with_reducible assumption) | assumption); obtain ⟨i036, hi036, _, hsz36, _⟩ := info_parts info9; have hroom36 : x5_1.length ≤ co33 := (Kd.V_reads' HO_5.out).2.1; have hC36 : Kd.F Kd.string _ _ Ao33 x5_1.length x5_1 := (Kd.V_at (base := w.heap.size) HO_5.out).2.2; have q036 : (0 : Int) ≤ ((ji30) : Int) := of_decide_eq_true (by first | (with_reducible assumption) | assumption); have hcut36 := cut_from (P := Try.prog) 22 9 .i64 Try.underlying22 hi036 1 hsz36 Ao33 x5_1.length co33 (ji30) q036 q36; have hr36 := Kd.F_cut (m := ((ji30) : Int).toNat) (c := co33) hC36 (by omega) hroom36; obtain ⟨A36, hA36⟩ : ∃ A1, A1 = (if co33 = ((ji30) : Int).toNat then Ao33 else (Ao33 : Option Addr).map (·.add (((ji30) : Int).toNat * 1))) := ⟨_, rfl⟩; obtain ⟨c36, hc36⟩ : ∃ c1, c1 = co33 - ((ji30) : Int).toNat := ⟨_, rfl⟩; have hy36 : y288.length = x5_1.length - ((ji30) : Int).toNat := (by rw [Ny288.out, List.length_drop] <;> omega); rw [show (x5_1).drop ((ji30) : Int).toNat = y288 from Ny288.out.symm] at hr36; replace hr36 : Kd.F Kd.string _ _ A36 y288.length y288 := (by rw [hA36]; exact hr36); rw [← hy36, ← hA36, ← hc36] at hcut36; have HO292 := Aside0.mk (show Kd.V Kd.string 9 _ w.heap.size _ (.slice A36 y288.length c36) y288 from Kd.V_mk (by rw [hy36, hc36]; exact Nat.sub_le_sub_right hroom36 _) hr36); have HC292 := Aside0.mk (show y288.length ≤ c36 from by rw [hy36, hc36]; exact Nat.sub_le_sub_right hroom36 _); clear hr36 hC36 hroom36 hi036 hsz36 hc36; have KY36 := Aside0.mk hy36; have KA36 := Aside0.mk hA36; clear hy36 hA36; replace q36 := eq_true q36))
           go_roundg k1
           case measure => have := HK1.out; omega
           case rel => exact ⟨(x3_1), (wrap64 (x4_1 + (ji9))), (y288), (by first | rfl | (simp; done) | (simp only [← hji9] <;> (first | rfl | simp)) | (simp [*]; done)), H', ⟨by have := HK1.out; omega⟩, ⟨by (with_reducible repeat (first | apply Kd.S_alloc | apply Kd.S_drewN | apply Kd.S_drew)); exact HO_3.out⟩, ⟨by (with_reducible repeat (first | apply Kd.V_alloc | apply Kd.V_drewN | apply Kd.V_drew)); exact HO292.out⟩, ⟨by (with_reducible repeat (first | apply Kd.V_alloc | apply Kd.V_drewN | apply Kd.V_drew)); exact HO_259004.out⟩, ⟨by (with_reducible repeat (first | refine blk_drewN ?_ _ | refine blk_drew ?_ | refine blk_alloc ?_ _)); exact BK258.out⟩, ⟨by repeat (first | (with_reducible first | exact HB.out | apply below_alloc | apply pw_below_drewN | apply below_drew1 | refine below_set ?_ GE258.out) | exact HB.out)⟩⟩
          ·rw [if_neg c32] at H
           exact absurd H (by simp)
         ·rw [if_neg c31] at H
          exact absurd H (by simp)
       ·rw [if_neg c11] at H
        exact absurd H (by simp)
      ·rw [if_neg c10] at H
       exact absurd H (by simp)
     ·rw [if_neg c7] at H
      exact absurd H (by simp)
    ·rw [if_neg c6] at H
     exact absurd H (by simp)
   ·rw [if_neg c4] at H
    have c4b0 : decide (0 < (x5_1.length : Int)) = false := decide_eq_false c4
    have c4b1 : decide (0 < x5_1.length) = false := decide_eq_false (by omega)
    clear c4
    obtain rfl := Option.some.inj H
    obtain ⟨Ao37, co37, eo37⟩ := Kd.V_slice HO_5.out
    subst eo37
    go_wp2
    go_ret
    exact ⟨_, by first | rfl | (simp [errW_none, errW_some] <;> rfl) | (simp [*, errW_none, errW_some] <;> rfl), by (with_reducible repeat (first | apply Kd.S_alloc | apply Kd.S_drewN | apply Kd.S_drew)); exact HO_3.out, by repeat (first | (with_reducible first | exact HB.out | apply below_alloc | apply pw_below_drewN | apply below_drew1 | refine below_set ?_ GE258.out) | exact HB.out)⟩

end Go.Proofs.Ytlabiajcohmjhaa.Pr
-- shrunk
