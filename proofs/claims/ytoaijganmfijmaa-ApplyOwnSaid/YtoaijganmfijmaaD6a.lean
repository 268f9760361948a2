-- written by a program of this session's (a turned copy of the kit's printer); Lean checks it
import Derived.Test.YtoaijganmfijmaaK0
import Derived.Test.YtoaijganmfijmaaK1
import Derived.Test.YtoaijganmfijmaaD5
namespace Go.Proofs.Ytoaijganmfijmaa.Pr
open Go.RowKit Go.Proofs.YtoaijganmfijmaaW.PrintWords Go.Proofs.YtoaijganmfijmaaW.PrintLast Go.Proofs.YtoaijganmfijmaaW.PrintMore
attribute [local go_sem] max2_int min2_int max_two min_two max_three min_three max_four min_four   -- for this text's walks alone
set_option linter.unusedVariables false
set_option linter.unusedSimpArgs false

mutual
def hunk_Make.j0 : Nat → List ByteArray → List (S53) → Int → Bool → Option ((List (S41)) × Int)
 | 0, _, _, _, _ => none
 | k + 1, x0, x1, x2, x24 => if x24 = true then (some (([] : List (S41)), 1)) else (hunk_Make.l0 k x0 x1 x2 ([] : List (S41)) 0)
def hunk_Make.l0 : Nat → List ByteArray → List (S53) → Int → List (S41) → Int → Option ((List (S41)) × Int)
 | 0, _, _, _, _, _ => none
 | k + 1, x0, x1, x2, x8, x9 => if (x1.length : Int) > 0 then (hunk_Make.l1 k x0 x1 x2 x8 x9 1) else (some (x8, 0))
def hunk_Make.l1 : Nat → List ByteArray → List (S53) → Int → List (S41) → Int → Int → Option ((List (S41)) × Int)
 | 0, _, _, _, _, _, _ => none
 | k + 1, x0, x1, x2, x8, x9, x10 => if x10 < (x1.length : Int) then (if 0 ≤ x10 then (if 0 ≤ (wrap64 (x10 - 1)) then (if (wrap64 (x10 - 1)) < (x1.length : Int) then (if (wrap64 ((wrap64 (((rd_T53 x1 x10).f0) - ((rd_T53 x1 (wrap64 (x10 - 1))).f0))) - ((rd_T53 x1 (wrap64 (x10 - 1))).f1))) ≤ (wrap64 (2 * x2)) then (hunk_Make.l1 k x0 x1 x2 x8 x9 (wrap64 (x10 + 1))) else (if x10 ≤ (x1.length : Int) then ((hunk_group.f k x0 (x1.take (x10 : Int).toNat) x2 x9).bind fun bt241 => (if x8.length < 2513169434916 then (hunk_Make.l0 k x0 (x1.drop (x10 : Int).toNat) x2 (x8 ++ [(⟨bt241.1, bt241.2.1, bt241.2.2.1, bt241.2.2.2.1, bt241.2.2.2.2⟩ : S41)]) (wrap64 (x9 + (wrap64 (bt241.2.2.2.1 - bt241.2.1))))) else (none))) else (none))) else (none)) else (none)) else (none)) else (if 0 ≤ x10 then (if x10 ≤ (x1.length : Int) then ((hunk_group.f k x0 (x1.take (x10 : Int).toNat) x2 x9).bind fun bt262 => (if x8.length < 2513169434916 then (hunk_Make.l0 k x0 (x1.drop (x10 : Int).toNat) x2 (x8 ++ [(⟨bt262.1, bt262.2.1, bt262.2.2.1, bt262.2.2.2.1, bt262.2.2.2.2⟩ : S41)]) (wrap64 (x9 + (wrap64 (bt262.2.2.2.1 - bt262.2.1))))) else (none))) else (none)) else (none))
end
def hunk_Make.f (k : Nat) (l0 : List ByteArray) (l1 : List (S53)) (a2 : Int) : Option ((List (S41)) × Int) := (diff_Right.f k (l0.length : Int) l1).bind fun t232 => (if t232 = true then (if a2 < 0 then (hunk_Make.j0 k l0 l1 a2 true) else (hunk_Make.j0 k l0 l1 a2 (decide (a2 > 1000)))) else (hunk_Make.j0 k l0 l1 a2 true))
theorem hunk_Make.mono_l : ∀ k, (∀ y0 y1 y2 y3, LeO (hunk_Make.j0 k y0 y1 y2 y3) (hunk_Make.j0 (k + 1) y0 y1 y2 y3)) ∧ (∀ y0 y1 y2 y3 y4, LeO (hunk_Make.l0 k y0 y1 y2 y3 y4) (hunk_Make.l0 (k + 1) y0 y1 y2 y3 y4)) ∧ (∀ y0 y1 y2 y3 y4 y5, LeO (hunk_Make.l1 k y0 y1 y2 y3 y4 y5) (hunk_Make.l1 (k + 1) y0 y1 y2 y3 y4 y5))
 | 0 => ⟨fun _ _ _ _ r h => by simp [hunk_Make.j0] at h, fun _ _ _ _ _ r h => by simp [hunk_Make.l0] at h, fun _ _ _ _ _ _ r h => by simp [hunk_Make.l1] at h⟩
 | k + 1 => by
  obtain ⟨ih0, ih1, ih2⟩ := hunk_Make.mono_l k
  refine ⟨?_, ?_, ?_⟩
  ·intro y0 y1 y2 y3
   unfold hunk_Make.j0
   repeat' first
   | (with_reducible exact ih0 _ _ _ _)
   | (with_reducible exact ih1 _ _ _ _ _)
   | (with_reducible exact ih2 _ _ _ _ _ _)
   | (with_reducible exact diff_Right.mono _ _ _)
   | (with_reducible exact hunk_group.mono _ _ _ _ _)
   | (with_reducible exact LeO.refl _)
   | (with_reducible exact LeO.none _)
   | (with_reducible refine LeO.ite ?_ ?_)
   | (with_reducible refine LeO.bind ?_ (fun _ => ?_))
   | exact ih0 _ _ _ _
   | exact ih1 _ _ _ _ _
   | exact ih2 _ _ _ _ _ _
   | exact diff_Right.mono _ _ _
   | exact hunk_group.mono _ _ _ _ _
   | exact LeO.none _
   | refine LeO.ite ?_ ?_
   | refine LeO.bind ?_ (fun _ => ?_)
  ·intro y0 y1 y2 y3 y4
   unfold hunk_Make.l0
   repeat' first
   | (with_reducible exact ih0 _ _ _ _)
   | (with_reducible exact ih1 _ _ _ _ _)
   | (with_reducible exact ih2 _ _ _ _ _ _)
   | (with_reducible exact diff_Right.mono _ _ _)
   | (with_reducible exact hunk_group.mono _ _ _ _ _)
   | (with_reducible exact LeO.refl _)
   | (with_reducible exact LeO.none _)
   | (with_reducible refine LeO.ite ?_ ?_)
   | (with_reducible refine LeO.bind ?_ (fun _ => ?_))
   | exact ih0 _ _ _ _
   | exact ih1 _ _ _ _ _
   | exact ih2 _ _ _ _ _ _
   | exact diff_Right.mono _ _ _
   | exact hunk_group.mono _ _ _ _ _
   | exact LeO.none _
   | refine LeO.ite ?_ ?_
   | refine LeO.bind ?_ (fun _ => ?_)
  ·intro y0 y1 y2 y3 y4 y5
   unfold hunk_Make.l1
   repeat' first
   | (with_reducible exact ih0 _ _ _ _)
   | (with_reducible exact ih1 _ _ _ _ _)
   | (with_reducible exact ih2 _ _ _ _ _ _)
   | (with_reducible exact diff_Right.mono _ _ _)
   | (with_reducible exact hunk_group.mono _ _ _ _ _)
   | (with_reducible exact LeO.refl _)
   | (with_reducible exact LeO.none _)
   | (with_reducible refine LeO.ite ?_ ?_)
   | (with_reducible refine LeO.bind ?_ (fun _ => ?_))
   | exact ih0 _ _ _ _
   | exact ih1 _ _ _ _ _
   | exact ih2 _ _ _ _ _ _
   | exact diff_Right.mono _ _ _
   | exact hunk_group.mono _ _ _ _ _
   | exact LeO.none _
   | refine LeO.ite ?_ ?_
   | refine LeO.bind ?_ (fun _ => ?_)
theorem hunk_Make.mono : ∀ a0 a1 a2 k, LeO (hunk_Make.f k a0 a1 a2) (hunk_Make.f (k + 1) a0 a1 a2) := by
 intro a0 a1 a2 k
 obtain ⟨ih0, ih1, ih2⟩ := hunk_Make.mono_l k
 unfold hunk_Make.f
 repeat' first
   | (with_reducible exact ih0 _ _ _ _)
   | (with_reducible exact ih1 _ _ _ _ _)
   | (with_reducible exact ih2 _ _ _ _ _ _)
   | (with_reducible exact diff_Right.mono _ _ _)
   | (with_reducible exact hunk_group.mono _ _ _ _ _)
   | (with_reducible exact LeO.refl _)
   | (with_reducible exact LeO.none _)
   | (with_reducible refine LeO.ite ?_ ?_)
   | (with_reducible refine LeO.bind ?_ (fun _ => ?_))
   | exact ih0 _ _ _ _
   | exact ih1 _ _ _ _ _
   | exact ih2 _ _ _ _ _ _
   | exact diff_Right.mono _ _ _
   | exact hunk_group.mono _ _ _ _ _
   | exact LeO.none _
   | refine LeO.ite ?_ ?_
   | refine LeO.bind ?_ (fun _ => ?_)
set_option maxHeartbeats 8000000 in
set_option maxRecDepth 100000 in
theorem hunk_Make.calls (k : Nat) (A0 : Option Addr) (c0 : Nat) (l0 : List ByteArray) (P1_ : Nat → Prop) (A1 : Option Addr) (c1 : Nat) (l1 : List (S53)) (a2 : Int) (r1 : List (S41)) (r2 : Int) (w : World) (hr0 : Kd.C Kd.string w A0 l0.length l0) (hc0 : l0.length ≤ c0) (hs1 : Kd.V k53 53 w w.heap.size (fun k_ => P1_ k_) (.slice A1 l1.length c1) l1) (h : hunk_Make.f k l0 l1 a2 = some (r1, r2)) :
  Calls Try.prog 29 #[.slice A0 l0.length c0, .slice A1 l1.length c1, .int .i64 a2] w fun e w' => ∃ v0_ : Value, e = .returned (.tuple #[v0_, .int .i64 r2]) ∧ Kd.S k41 41 w' w.heap.size (fun k_ => (w.heap.size ≤ k_)) v0_ r1 ∧ Below w.heap.size w w' := by
 have hu41 := Try.underlying41
 have HR0 := Aside0.mk hr0
 have HC0 := Aside0.mk hc0
 clear hr0 hc0
 have HO1 := Aside0.mk (show Kd.V k53 53 w w.heap.size (fun k_ => (P1_ k_ ∨ w.heap.size ≤ k_)) (.slice A1 l1.length c1) l1 from Kd.V_mono hs1 (fun k_ hk => .inl hk))
 have HB := Aside0.mk (Below.refl w.heap.size w)
 have H : ((diff_Right.f k (l0.length : Int) l1).bind fun t232 => (if t232 = true then (if a2 < 0 then (hunk_Make.j0 k l0 l1 a2 true) else (hunk_Make.j0 k l0 l1 a2 (decide (a2 > 1000)))) else (hunk_Make.j0 k l0 l1 a2 true))) = some (r1, r2) := h
 clear h
 have HC4 := Aside0.mk H
 clear H
 go_enter Try.func29, Try.ntmps29
 go_upto_region 1 with (fail)
 go_cut [24] (fun v24 wc => ∃ (kq : Nat) (x24_3 : Bool), v24 = .bool x24_3 ∧ Aside0 (hunk_Make.j0 kq l0 l1 a2 x24_3 = some (r1, r2)) ∧ Aside0 (kq ≤ k) ∧ Aside0 (Kd.V k53 53 wc w.heap.size (fun k_ => (P1_ k_ ∨ w.heap.size ≤ k_)) (.slice A1 l1.length c1) l1) ∧ Aside0 (Below w.heap.size w wc))
 case first =>
  have H := HC4.out
  clear HC4
  replace H := Option.bind_eq_some_iff.mp H
  obtain ⟨t232, A50, H⟩ := H
  replace H : (if t232 = true then (if a2 < 0 then (hunk_Make.j0 k l0 l1 a2 true) else (hunk_Make.j0 k l0 l1 a2 (decide (a2 > 1000)))) else (hunk_Make.j0 k l0 l1 a2 true)) = some (r1, r2) := H
  have A5 := Aside0.mk A50
  clear A50
  by_cases c6 : t232 = true
  ·subst c6
   have H1 : (if a2 < 0 then (hunk_Make.j0 k l0 l1 a2 true) else (hunk_Make.j0 k l0 l1 a2 (decide (a2 > 1000)))) = some (r1, r2) := by rw [if_pos rfl] at H; exact H
   clear H
   have H := H1
   clear H1
   by_cases c7 : a2 < 0
   ·rw [if_pos c7] at H
    have c7b0 : decide (a2 < 0) = true := decide_eq_true c7
    clear c7
    (first | rw [c7b0] | (simp only [i64_w, i32_w]; rw [c7b0]) | skip)
    have H' := Aside0.mk H
    clear H
    go_wp2_with ((go_at_call 42; (with_reducible refine (diff_Right.calls k (l0.length : Int) _ _ l1 true _ ?side1 ?side2 A5.out).mono ?_); (case side1 => repeat (first | exact (Kd.V_reads' HO1.out).2.2 | (with_reducible refine Kd.C_alloc ?_ _) | (with_reducible refine Kd.C_drewN ?_ _) | (with_reducible refine Kd.C_drew ?_))); (case side2 => exact (Kd.V_reads' HO1.out).2.1); rintro e w8 ⟨rfl, hb⟩; have n0_ := Aside0.mk (Kd.V_below (by (with_reducible repeat (first | apply Kd.V_alloc | apply Kd.V_drewN | apply Kd.V_drew)); exact HO1.out) hb); have n1_ := Aside0.mk (below_step (by repeat (first | (with_reducible first | exact HB.out | apply below_alloc | apply pw_below_drewN | apply below_drew1) | exact HB.out)) hb); clear HO1; clear HB; have HO1 := n0_; have HB := n1_; clear n0_ n1_; (try clear hb); (try clear hb2); (try clear hk); (try clear hi)))
    go_meet
    case rel => exact ⟨_, (true), (by first | rfl | (simp; done) | (simp [*]; done)), H', ⟨by first | omega | exact Nat.le_refl _⟩, ⟨by (with_reducible repeat (first | apply Kd.V_alloc | apply Kd.V_drewN | apply Kd.V_drew)); exact HO1.out⟩, ⟨by repeat (first | (with_reducible first | exact HB.out | apply below_alloc | apply pw_below_drewN | apply below_drew1) | exact HB.out)⟩⟩
   ·rw [if_neg c7] at H
    have c7b0 : decide (a2 < 0) = false := decide_eq_false c7
    clear c7
    (first | rw [c7b0] | (simp only [i64_w, i32_w]; rw [c7b0]) | skip)
    have H' := Aside0.mk H
    clear H
    go_wp2_with ((go_at_call 42; (with_reducible refine (diff_Right.calls k (l0.length : Int) _ _ l1 true _ ?side1 ?side2 A5.out).mono ?_); (case side1 => repeat (first | exact (Kd.V_reads' HO1.out).2.2 | (with_reducible refine Kd.C_alloc ?_ _) | (with_reducible refine Kd.C_drewN ?_ _) | (with_reducible refine Kd.C_drew ?_))); (case side2 => exact (Kd.V_reads' HO1.out).2.1); rintro e w9 ⟨rfl, hb⟩; have n0_ := Aside0.mk (Kd.V_below (by (with_reducible repeat (first | apply Kd.V_alloc | apply Kd.V_drewN | apply Kd.V_drew)); exact HO1.out) hb); have n1_ := Aside0.mk (below_step (by repeat (first | (with_reducible first | exact HB.out | apply below_alloc | apply pw_below_drewN | apply below_drew1) | exact HB.out)) hb); clear HO1; clear HB; have HO1 := n0_; have HB := n1_; clear n0_ n1_; (try clear hb); (try clear hb2); (try clear hk); (try clear hi)))
    go_meet
    case rel => exact ⟨_, (decide (a2 > 1000)), (by first | rfl | (simp; done) | (simp [*]; done)), H', ⟨by first | omega | exact Nat.le_refl _⟩, ⟨by (with_reducible repeat (first | apply Kd.V_alloc | apply Kd.V_drewN | apply Kd.V_drew)); exact HO1.out⟩, ⟨by repeat (first | (with_reducible first | exact HB.out | apply below_alloc | apply pw_below_drewN | apply below_drew1) | exact HB.out)⟩⟩
  ·replace c6 := Bool.eq_false_iff.mpr c6
   subst c6
   have H1 : (hunk_Make.j0 k l0 l1 a2 true) = some (r1, r2) := by rw [if_neg (show ¬ (false = true) by decide)] at H; exact H
   clear H
   have H := H1
   clear H1
   have H' := Aside0.mk H
   clear H
   go_wp2_with ((go_at_call 42; (with_reducible refine (diff_Right.calls k (l0.length : Int) _ _ l1 false _ ?side1 ?side2 A5.out).mono ?_); (case side1 => repeat (first | exact (Kd.V_reads' HO1.out).2.2 | (with_reducible refine Kd.C_alloc ?_ _) | (with_reducible refine Kd.C_drewN ?_ _) | (with_reducible refine Kd.C_drew ?_))); (case side2 => exact (Kd.V_reads' HO1.out).2.1); rintro e w10 ⟨rfl, hb⟩; have n0_ := Aside0.mk (Kd.V_below (by (with_reducible repeat (first | apply Kd.V_alloc | apply Kd.V_drewN | apply Kd.V_drew)); exact HO1.out) hb); have n1_ := Aside0.mk (below_step (by repeat (first | (with_reducible first | exact HB.out | apply below_alloc | apply pw_below_drewN | apply below_drew1) | exact HB.out)) hb); clear HO1; clear HB; have HO1 := n0_; have HB := n1_; clear n0_ n1_; (try clear hb); (try clear hb2); (try clear hk); (try clear hi)))
   go_meet
   case rel => exact ⟨_, (true), (by first | rfl | (simp; done) | (simp [*]; done)), H', ⟨by first | omega | exact Nat.le_refl _⟩, ⟨by (with_reducible repeat (first | apply Kd.V_alloc | apply Kd.V_drewN | apply Kd.V_drew)); exact HO1.out⟩, ⟨by repeat (first | (with_reducible first | exact HB.out | apply below_alloc | apply pw_below_drewN | apply below_drew1) | exact HB.out)⟩⟩
 case rest =>
  clear HC4
  try clear c1
  try clear c2
  try clear p2
  try clear c6
  try clear c7
  try clear c7b0
  obtain ⟨kq, x24_3, rfl, HA, HJ3, HO_1, HB⟩ := hcut
  cases kq with
  | zero => exact absurd HA.out (by simp [hunk_Make.j0])
  | succ kj3 =>
   have H := HA.out
   clear HA
   simp only [hunk_Make.j0] at H
   by_cases c11 : x24_3 = true
   ·subst c11
    have H1 : (some (([] : List (S41)), 1)) = some (r1, r2) := by rw [if_pos rfl] at H; exact H
    clear H
    have H := H1
    clear H1
    simp only [Option.some.injEq, Prod.mk.injEq] at H
    obtain ⟨rfl, rfl⟩ := H
    go_wp2
    go_ret2
    exact ⟨_, by first | rfl | (simp [errW_none, errW_some] <;> rfl) | (simp [*, errW_none, errW_some] <;> rfl), by first | exact Kd.S_nil _ _ _ _ _ | exact Kd.N_nil _ _ _ _ _ | exact Kd.V_nil _ _ _ _ _ | exact Kd.Q_nil _ _ _ _ _ | exact Kd.R_nil _ _ _ _ _, by repeat (first | (with_reducible first | exact HB.out | apply below_alloc | apply pw_below_drewN | apply below_drew1) | exact HB.out)⟩
   ·replace c11 := Bool.eq_false_iff.mpr c11
    subst c11
    have H1 : (hunk_Make.l0 kj3 l0 l1 a2 ([] : List (S41)) 0) = some (r1, r2) := by rw [if_neg (show ¬ (false = true) by decide)] at H; exact H
    clear H
    have H := H1
    clear H1
    have H' := Aside0.mk H
    clear H
    go_wp2
    go_loopg [1, 8, 9] kj3 (fun kq v1 v8 v9 w' => ∃ (x1_2 : List (S53)) (x8_2 : List (S41)) (x9_2 : Int), v9 = .int .i64 x9_2 ∧ Aside0 (hunk_Make.l0 kq l0 x1_2 a2 x8_2 x9_2 = some (r1, r2)) ∧ Aside0 (kq ≤ kj3) ∧ Aside0 (Kd.V k53 53 w' w.heap.size (fun k_ => (P1_ k_ ∨ w.heap.size ≤ k_) ∧ some k_ ≠ (v8 : Value).ownBlock) v1 x1_2) ∧ Aside0 (Kd.S k41 41 w' w.heap.size (fun k_ => (w.heap.size ≤ k_)) v8 x8_2) ∧ Aside0 (Below w.heap.size w w'))
    case atStart => exact ⟨(l1), (([] : List (S41))), (0), (by first | rfl | (simp; done) | (simp [*]; done)), H', ⟨Nat.le_refl _⟩, ⟨by (with_reducible repeat (first | apply Kd.V_alloc | apply Kd.V_drewN | apply Kd.V_drew)); exact Kd.V_mono HO_1.out (fun _ hk => ⟨hk, (by simp [Value.ownBlock])⟩)⟩, ⟨by first | exact Kd.S_nil _ _ _ _ _ | exact Kd.N_nil _ _ _ _ _ | exact Kd.V_nil _ _ _ _ _ | exact Kd.Q_nil _ _ _ _ _ | exact Kd.R_nil _ _ _ _ _⟩, ⟨by repeat (first | (with_reducible first | exact HB.out | apply below_alloc | apply pw_below_drewN | apply below_drew1) | exact HB.out)⟩⟩
    case round =>
     clear H'
     try clear c1
     try clear c2
     try clear p2
     try clear c6
     try clear c7
     try clear c7b0
     try clear c11
     try clear p2
     obtain ⟨x1_2, x8_2, x9_2, rfl, HA, HK2, HO_1, HO_8, HB⟩ := hrel
     cases gk with
     | zero => exact absurd HA.out (by simp [hunk_Make.l0])
     | succ k2 =>
      have H := HA.out
      clear HA
      simp only [hunk_Make.l0] at H
      by_cases c12 : (x1_2.length : Int) > 0
      ·rw [if_pos c12] at H
       have c12b0 : decide (0 < (x1_2.length : Int)) = true := decide_eq_true c12
       have c12b1 : decide (0 < x1_2.length) = true := decide_eq_true (by omega)
       clear c12
       have H' := Aside0.mk H
       clear H
       obtain ⟨Ao13, co13, eo13⟩ := Kd.V_slice HO_1.out
       subst eo13
       go_wp2
       go_loopg [10] k2 (fun kq v10 w' => ∃ (x10_3 : Int), v10 = .int .i64 x10_3 ∧ Aside0 (hunk_Make.l1 kq l0 x1_2 a2 x8_2 x9_2 x10_3 = some (r1, r2)) ∧ Aside0 (kq ≤ k2) ∧ Aside0 (Kd.V k53 53 w' w.heap.size (fun k_ => (P1_ k_ ∨ w.heap.size ≤ k_) ∧ some k_ ≠ (u8 : Value).ownBlock) (.slice Ao13 x1_2.length co13) x1_2) ∧ Aside0 (Kd.S k41 41 w' w.heap.size (fun k_ => (w.heap.size ≤ k_)) u8 x8_2) ∧ Aside0 (Below w.heap.size w w'))
       case atStart => exact ⟨(1), (by first | rfl | (simp; done) | (simp [*]; done)), H', ⟨Nat.le_refl _⟩, ⟨by (with_reducible repeat (first | apply Kd.V_alloc | apply Kd.V_drewN | apply Kd.V_drew)); exact HO_1.out⟩, ⟨by (with_reducible repeat (first | apply Kd.S_alloc | apply Kd.S_drewN | apply Kd.S_drew)); exact HO_8.out⟩, ⟨by repeat (first | (with_reducible first | exact HB.out | apply below_alloc | apply pw_below_drewN | apply below_drew1) | exact HB.out)⟩⟩
       case round =>
        clear H'
        try clear c1
        try clear c2
        try clear p2
        try clear c6
        try clear c7
        try clear c7b0
        try clear c11
        try clear c12
        try clear c12b0
        try clear c12b1
        try clear p2
        obtain ⟨x10_3, rfl, HA, HK3, HO_1, HO_8, HB⟩ := hrel
        cases gk with
        | zero => exact absurd HA.out (by simp [hunk_Make.l1])
        | succ k3 =>
         have H := HA.out
         clear HA
         simp only [hunk_Make.l1] at H
         by_cases c14 : x10_3 < (x1_2.length : Int)
         ·rw [if_pos c14] at H
          have c14b0 : decide (x10_3 < (x1_2.length : Int)) = true := decide_eq_true c14
          clear c14
          by_cases c15 : 0 ≤ x10_3
          ·rw [if_pos c15] at H
           have c15b0 : decide (0 ≤ x10_3) = true := decide_eq_true c15
           clear c15
           obtain ⟨ji16, hji16⟩ : ∃ j_ : Int, (wrap64 (x10_3 - 1)) = j_ := ⟨_, rfl⟩
           replace H : (if 0 ≤ (ji16) then (if (ji16) < (x1_2.length : Int) then (if (wrap64 ((wrap64 (((rd_T53 x1_2 x10_3).f0) - ((rd_T53 x1_2 (ji16)).f0))) - ((rd_T53 x1_2 (ji16)).f1))) ≤ (wrap64 (2 * a2)) then (hunk_Make.l1 k3 l0 x1_2 a2 x8_2 x9_2 (wrap64 (x10_3 + 1))) else (if x10_3 ≤ (x1_2.length : Int) then ((hunk_group.f k3 l0 (x1_2.take (x10_3 : Int).toNat) a2 x9_2).bind fun bt241 => (if x8_2.length < 2513169434916 then (hunk_Make.l0 k3 l0 (x1_2.drop (x10_3 : Int).toNat) a2 (x8_2 ++ [(⟨bt241.1, bt241.2.1, bt241.2.2.1, bt241.2.2.2.1, bt241.2.2.2.2⟩ : S41)]) (wrap64 (x9_2 + (wrap64 (bt241.2.2.2.1 - bt241.2.1))))) else (none))) else (none))) else (none)) else (none)) = some (r1, r2) := by first | (rw [hji16] at H; exact H) | (simp only [hji16] at H ⊢; exact H)
           have hji16w : (IntKind.i64.wrap (x10_3 - 1)) = ji16 := (i64_w _).trans hji16
           by_cases c17 : 0 ≤ (ji16)
           ·rw [if_pos c17] at H
            have c17b0 : decide (0 ≤ (ji16)) = true := decide_eq_true c17
            clear c17
            by_cases c18 : (ji16) < (x1_2.length : Int)
            ·rw [if_pos c18] at H
             have c18b0 : decide ((ji16) < (x1_2.length : Int)) = true := decide_eq_true c18
             clear c18
             by_cases c19 : (wrap64 ((wrap64 (((rd_T53 x1_2 x10_3).f0) - ((rd_T53 x1_2 (ji16)).f0))) - ((rd_T53 x1_2 (ji16)).f1))) ≤ (wrap64 (2 * a2))
             ·rw [if_pos c19] at H
              have c19b0 : decide ((wrap64 ((wrap64 (((rd_T53 x1_2 x10_3).f0) - ((rd_T53 x1_2 (ji16)).f0))) - ((rd_T53 x1_2 (ji16)).f1))) ≤ (wrap64 (2 * a2))) = true := decide_eq_true c19
              clear c19
              have H' := Aside0.mk H
              clear H
              have p233 : 0 ≤ (x10_3 : Int) := of_decide_eq_true (by first | (with_reducible assumption) | assumption)
              have q233 : x10_3 < (x1_2.length : Int) := of_decide_eq_true (by first | (with_reducible assumption) | assumption)
              obtain ⟨ad233, A233_2, c233_2, e233, hx233_0, hx233_1, hx233_2, hl233_2, hi233_2⟩ := at_T53 (Kd.V_reads' HO_1.out).2.2 x10_3 p233 q233
              cases e233
              obtain ⟨ce233, hce233, hMe233, hcc233⟩ := Kd.V_get HO_1.out z53 x10_3 p233 (by first | exact q233 | exact of_decide_eq_true (by first | (with_reducible assumption) | assumption) | (have e_ := (Kd.V_reads' HO_1.out).1; omega))
              obtain ⟨ua233_2, uc233_2, rfl, ul233_2, ge233_2⟩ := k53_openF hMe233
              have hv233_2 := hcc233 2 _ rfl
              rw [add_field _ _ 2 (by omega)] at hv233_2
              replace hv233_2 := Option.some.inj (hv233_2.symm.trans hx233_2)
              injection hv233_2 with hva_ hvn_ hvc_
              rw [hva_] at ge233_2
              rw [hvc_] at ul233_2
              have HL233_2 := Aside0.mk (show Kd.V Kd.string 9 _ w.heap.size _ _ ((rd_T53 x1_2 x10_3).f2) from Kd.V_mk ul233_2 ge233_2)
              clear hva_ hvn_ hvc_ ge233_2 ul233_2
              clear hcc233 hce233
              have HR233_2 := Aside0.mk hi233_2
              have HC233_2 := Aside0.mk hl233_2
              clear hi233_2 hl233_2
              replace p233 := eq_true p233
              replace q233 := eq_true q233
              have p234 : 0 ≤ ((ji16) : Int) := of_decide_eq_true (by first | (with_reducible assumption) | assumption)
              have q234 : (ji16) < (x1_2.length : Int) := of_decide_eq_true (by first | (with_reducible assumption) | assumption)
              obtain ⟨ad234, A234_2, c234_2, e234, hx234_0, hx234_1, hx234_2, hl234_2, hi234_2⟩ := at_T53 (Kd.V_reads' HO_1.out).2.2 (ji16) p234 q234
              obtain rfl : ad233 = ad234 := (by injection e234)
              obtain ⟨ce234, hce234, hMe234, hcc234⟩ := Kd.V_get HO_1.out z53 (ji16) p234 (by first | exact q234 | exact of_decide_eq_true (by first | (with_reducible assumption) | assumption) | (have e_ := (Kd.V_reads' HO_1.out).1; omega))
              obtain ⟨ua234_2, uc234_2, rfl, ul234_2, ge234_2⟩ := k53_openF hMe234
              have hv234_2 := hcc234 2 _ rfl
              rw [add_field _ _ 2 (by omega)] at hv234_2
              replace hv234_2 := Option.some.inj (hv234_2.symm.trans hx234_2)
              injection hv234_2 with hva_ hvn_ hvc_
              rw [hva_] at ge234_2
              rw [hvc_] at ul234_2
              have HL234_2 := Aside0.mk (show Kd.V Kd.string 9 _ w.heap.size _ _ ((rd_T53 x1_2 (ji16)).f2) from Kd.V_mk ul234_2 ge234_2)
              clear hva_ hvn_ hvc_ ge234_2 ul234_2
              clear hcc234 hce234
              have HR234_2 := Aside0.mk hi234_2
              have HC234_2 := Aside0.mk hl234_2
              clear hi234_2 hl234_2
              replace p234 := eq_true p234
              replace q234 := eq_true q234
              have p235 : 0 ≤ ((ji16) : Int) := of_decide_eq_true (by first | (with_reducible assumption) | assumption)
              have q235 : (ji16) < (x1_2.length : Int) := of_decide_eq_true (by first | (with_reducible assumption) | assumption)
              obtain ⟨ad235, A235_2, c235_2, e235, hx235_0, hx235_1, hx235_2, hl235_2, hi235_2⟩ := at_T53 (Kd.V_reads' HO_1.out).2.2 (ji16) p235 q235
              obtain rfl : ad233 = ad235 := (by injection e235)
              obtain ⟨ce235, hce235, hMe235, hcc235⟩ := Kd.V_get HO_1.out z53 (ji16) p235 (by first | exact q235 | exact of_decide_eq_true (by first | (with_reducible assumption) | assumption) | (have e_ := (Kd.V_reads' HO_1.out).1; omega))
              obtain ⟨ua235_2, uc235_2, rfl, ul235_2, ge235_2⟩ := k53_openF hMe235
              have hv235_2 := hcc235 2 _ rfl
              rw [add_field _ _ 2 (by omega)] at hv235_2
              replace hv235_2 := Option.some.inj (hv235_2.symm.trans hx235_2)
              injection hv235_2 with hva_ hvn_ hvc_
              rw [hva_] at ge235_2
              rw [hvc_] at ul235_2
              have HL235_2 := Aside0.mk (show Kd.V Kd.string 9 _ w.heap.size _ _ ((rd_T53 x1_2 (ji16)).f2) from Kd.V_mk ul235_2 ge235_2)
              clear hva_ hvn_ hvc_ ge235_2 ul235_2
              clear hcc235 hce235
              have HR235_2 := Aside0.mk hi235_2
              have HC235_2 := Aside0.mk hl235_2
              clear hi235_2 hl235_2
              replace p235 := eq_true p235
              replace q235 := eq_true q235
              have ea_ := Option.some.inj (hx234_2.symm.trans hx235_2)
              injection ea_ with ea_ en_ ec_
              subst ea_
              subst ec_
              clear en_
              go_wp2
              repeat (go_quiet (fail); try go_wp2)
              go_roundg k3
              case measure => have := HJ3.out; have := HK2.out; have := HK3.out; omega
              case rel => exact ⟨(wrap64 (x10_3 + 1)), (by first | rfl | (simp; done) | (simp [*]; done)), H', ⟨by have := HJ3.out; have := HK2.out; have := HK3.out; omega⟩, ⟨by (with_reducible repeat (first | apply Kd.V_alloc | apply Kd.V_drewN | apply Kd.V_drew)); exact HO_1.out⟩, ⟨by (with_reducible repeat (first | apply Kd.S_alloc | apply Kd.S_drewN | apply Kd.S_drew)); exact HO_8.out⟩, ⟨by repeat (first | (with_reducible first | exact HB.out | apply below_alloc | apply pw_below_drewN | apply below_drew1) | exact HB.out)⟩⟩
             ·rw [if_neg c19] at H
              have c19b0 : decide ((wrap64 ((wrap64 (((rd_T53 x1_2 x10_3).f0) - ((rd_T53 x1_2 (ji16)).f0))) - ((rd_T53 x1_2 (ji16)).f1))) ≤ (wrap64 (2 * a2))) = false := decide_eq_false c19
              clear c19
              have c20b0 := eq_true (of_decide_eq_true (by first | (with_reducible assumption) | assumption) : 0 ≤ x10_3)
              by_cases c21 : x10_3 ≤ (x1_2.length : Int)
              ·rw [if_pos c21] at H
               have c21b0 := eq_true c21
               have c21b1 : decide (x10_3 ≤ (x1_2.length : Int)) = true := decide_eq_true c21
               clear c21
               obtain ⟨y236, hy236⟩ : ∃ y_ : List (S53), y_ = (x1_2.take (x10_3 : Int).toNat) := ⟨_, rfl⟩
               replace H : ((hunk_group.f k3 l0 y236 a2 x9_2).bind fun bt241 => (if x8_2.length < 2513169434916 then (hunk_Make.l0 k3 l0 (x1_2.drop (x10_3 : Int).toNat) a2 (x8_2 ++ [(⟨bt241.1, bt241.2.1, bt241.2.2.1, bt241.2.2.2.1, bt241.2.2.2.2⟩ : S41)]) (wrap64 (x9_2 + (wrap64 (bt241.2.2.2.1 - bt241.2.1))))) else (none))) = some (r1, r2) := by first | (rw [hy236]; with_reducible exact H) | (have H2_ := (Option.bind_some _ _).symm.trans H; rw [hy236]; with_reducible exact H2_) | (have H2_ := (Option.bind_some _ _).symm.trans H; with_reducible exact H2_) | with_reducible exact H | (rw [hy236]; exact H) | exact H
               have Ny236 := Aside0.mk hy236
               clear hy236
               replace H := Option.bind_eq_some_iff.mp H
               obtain ⟨⟨t241, t242, t243, t244, t245⟩, A220, H⟩ := H
               replace H : (if x8_2.length < 2513169434916 then (hunk_Make.l0 k3 l0 (x1_2.drop (x10_3 : Int).toNat) a2 (x8_2 ++ [(⟨t241, t242, t243, t244, t245⟩ : S41)]) (wrap64 (x9_2 + (wrap64 (t244 - t242))))) else (none)) = some (r1, r2) := H
               have A22 := Aside0.mk A220
               clear A220
               by_cases c23 : x8_2.length < 2513169434916
               ·rw [if_pos c23] at H
                have LMc23 := Aside0.mk c23
                clear c23
                obtain ⟨y249, hy249⟩ : ∃ y_ : List (S41), y_ = (x8_2 ++ [(⟨t241, t242, t243, t244, t245⟩ : S41)]) := ⟨_, rfl⟩
                replace H : (hunk_Make.l0 k3 l0 (x1_2.drop (x10_3 : Int).toNat) a2 y249 (wrap64 (x9_2 + (wrap64 (t244 - t242))))) = some (r1, r2) := by first | (rw [hy249]; with_reducible exact H) | (have H2_ := (Option.bind_some _ _).symm.trans H; rw [hy249]; with_reducible exact H2_) | (have H2_ := (Option.bind_some _ _).symm.trans H; with_reducible exact H2_) | with_reducible exact H | (rw [hy249]; exact H) | exact H
                have Ny249 := Aside0.mk hy249
                clear hy249
                have c24b0 := eq_true (of_decide_eq_true (by first | (with_reducible assumption) | assumption) : 0 ≤ x10_3)
                have c25b0 := eq_true (of_decide_eq_true (by first | (with_reducible assumption) | assumption) : x10_3 ≤ (x1_2.length : Int))
                obtain ⟨y252, hy252⟩ : ∃ y_ : List (S53), y_ = (x1_2.drop (x10_3 : Int).toNat) := ⟨_, rfl⟩
                replace H : (hunk_Make.l0 k3 l0 y252 a2 y249 (wrap64 (x9_2 + (wrap64 (t244 - t242))))) = some (r1, r2) := by first | (rw [hy252]; with_reducible exact H) | (have H2_ := (Option.bind_some _ _).symm.trans H; rw [hy252]; with_reducible exact H2_) | (have H2_ := (Option.bind_some _ _).symm.trans H; with_reducible exact H2_) | with_reducible exact H | (rw [hy252]; exact H) | exact H
                have Ny252 := Aside0.mk hy252
                clear hy252
                have H' := Aside0.mk H
                clear H
                have p233 : 0 ≤ (x10_3 : Int) := of_decide_eq_true (by first | (with_reducible assumption) | assumption)
                have q233 : x10_3 < (x1_2.length : Int) := of_decide_eq_true (by first | (with_reducible assumption) | assumption)
                obtain ⟨ad233, A233_2, c233_2, e233, hx233_0, hx233_1, hx233_2, hl233_2, hi233_2⟩ := at_T53 (Kd.V_reads' HO_1.out).2.2 x10_3 p233 q233
                cases e233
                obtain ⟨ce233, hce233, hMe233, hcc233⟩ := Kd.V_get HO_1.out z53 x10_3 p233 (by first | exact q233 | exact of_decide_eq_true (by first | (with_reducible assumption) | assumption) | (have e_ := (Kd.V_reads' HO_1.out).1; omega))
                obtain ⟨ua233_2, uc233_2, rfl, ul233_2, ge233_2⟩ := k53_openF hMe233
                have hv233_2 := hcc233 2 _ rfl
                rw [add_field _ _ 2 (by omega)] at hv233_2
                replace hv233_2 := Option.some.inj (hv233_2.symm.trans hx233_2)
                injection hv233_2 with hva_ hvn_ hvc_
                rw [hva_] at ge233_2
                rw [hvc_] at ul233_2
                have HL233_2 := Aside0.mk (show Kd.V Kd.string 9 _ w.heap.size _ _ ((rd_T53 x1_2 x10_3).f2) from Kd.V_mk ul233_2 ge233_2)
                clear hva_ hvn_ hvc_ ge233_2 ul233_2
                clear hcc233 hce233
                have HR233_2 := Aside0.mk hi233_2
                have HC233_2 := Aside0.mk hl233_2
                clear hi233_2 hl233_2
                replace p233 := eq_true p233
                replace q233 := eq_true q233
                have p234 : 0 ≤ ((ji16) : Int) := of_decide_eq_true (by first | (with_reducible assumption) | assumption)
                have q234 : (ji16) < (x1_2.length : Int) := of_decide_eq_true (by first | (with_reducible assumption) | assumption)
                obtain ⟨ad234, A234_2, c234_2, e234, hx234_0, hx234_1, hx234_2, hl234_2, hi234_2⟩ := at_T53 (Kd.V_reads' HO_1.out).2.2 (ji16) p234 q234
                obtain rfl : ad233 = ad234 := (by injection e234)
                obtain ⟨ce234, hce234, hMe234, hcc234⟩ := Kd.V_get HO_1.out z53 (ji16) p234 (by first | exact q234 | exact of_decide_eq_true (by first | (with_reducible assumption) | assumption) | (have e_ := (Kd.V_reads' HO_1.out).1; omega))
                obtain ⟨ua234_2, uc234_2, rfl, ul234_2, ge234_2⟩ := k53_openF hMe234
                have hv234_2 := hcc234 2 _ rfl
                rw [add_field _ _ 2 (by omega)] at hv234_2
                replace hv234_2 := Option.some.inj (hv234_2.symm.trans hx234_2)
                injection hv234_2 with hva_ hvn_ hvc_
                rw [hva_] at ge234_2
                rw [hvc_] at ul234_2
                have HL234_2 := Aside0.mk (show Kd.V Kd.string 9 _ w.heap.size _ _ ((rd_T53 x1_2 (ji16)).f2) from Kd.V_mk ul234_2 ge234_2)
                clear hva_ hvn_ hvc_ ge234_2 ul234_2
                clear hcc234 hce234
                have HR234_2 := Aside0.mk hi234_2
                have HC234_2 := Aside0.mk hl234_2
                clear hi234_2 hl234_2
                replace p234 := eq_true p234
                replace q234 := eq_true q234
                have p235 : 0 ≤ ((ji16) : Int) := of_decide_eq_true (by first | (with_reducible assumption) | assumption)
                have q235 : (ji16) < (x1_2.length : Int) := of_decide_eq_true (by first | (with_reducible assumption) | assumption)
                obtain ⟨ad235, A235_2, c235_2, e235, hx235_0, hx235_1, hx235_2, hl235_2, hi235_2⟩ := at_T53 (Kd.V_reads' HO_1.out).2.2 (ji16) p235 q235
                obtain rfl : ad233 = ad235 := (by injection e235)
                obtain ⟨ce235, hce235, hMe235, hcc235⟩ := Kd.V_get HO_1.out z53 (ji16) p235 (by first | exact q235 | exact of_decide_eq_true (by first | (with_reducible assumption) | assumption) | (have e_ := (Kd.V_reads' HO_1.out).1; omega))
                obtain ⟨ua235_2, uc235_2, rfl, ul235_2, ge235_2⟩ := k53_openF hMe235
                have hv235_2 := hcc235 2 _ rfl
                rw [add_field _ _ 2 (by omega)] at hv235_2
                replace hv235_2 := Option.some.inj (hv235_2.symm.trans hx235_2)
                injection hv235_2 with hva_ hvn_ hvc_
                rw [hva_] at ge235_2
                rw [hvc_] at ul235_2
                have HL235_2 := Aside0.mk (show Kd.V Kd.string 9 _ w.heap.size _ _ ((rd_T53 x1_2 (ji16)).f2) from Kd.V_mk ul235_2 ge235_2)
                clear hva_ hvn_ hvc_ ge235_2 ul235_2
                clear hcc235 hce235
                have HR235_2 := Aside0.mk hi235_2
                have HC235_2 := Aside0.mk hl235_2
                clear hi235_2 hl235_2
                replace p235 := eq_true p235
                replace q235 := eq_true q235
                have ea_ := Option.some.inj (hx234_2.symm.trans hx235_2)
                injection ea_ with ea_ en_ ec_
                subst ea_
                subst ec_
                clear en_
                have q26 : (x10_3 : Int) ≤ ((x1_2.length : Int) : Int) := of_decide_eq_true (by first | (with_reducible assumption) | assumption)
                obtain ⟨i026, hi026, _, hsz26, _⟩ := info_parts info53
                have hroom26 : x1_2.length ≤ co13 := (Kd.V_reads' HO_1.out).2.1
                have hC26 : Kd.F k53 _ _ (some ad233) x1_2.length x1_2 := (Kd.V_at (base := w.heap.size) HO_1.out).2.2
                have hcut26 := cut_to (P := Try.prog) 36 53 .i64 Try.underlying36 hi026 (some ad233) x1_2.length co13 x10_3 (of_decide_eq_true (by first | (with_reducible assumption) | assumption)) q26 hroom26
                have hr26 := Kd.F_take (m := (x10_3 : Int).toNat) hC26 (by omega)
                have hy26 : y236.length = (x10_3 : Int).toNat := (by rw [Ny236.out, List.length_take]; omega)
                rw [← Ny236.out] at hr26
                rw [← hy26] at hcut26
                have HO240 := Aside0.mk (show Kd.V k53 53 _ w.heap.size _ (.slice (some ad233) y236.length co13) y236 from Kd.V_mk (by omega) hr26)
                have HC240 := Aside0.mk (show y236.length ≤ co13 from by omega)
                clear hr26 hC26 hroom26 hi026 hsz26
                have KY26 := Aside0.mk hy26
                clear hy26
                replace q26 := eq_true q26
                go_wp2_with (fail)
                repeat (go_quiet (fail); try go_wp2_with (first | (go_at_call 43; (with_reducible refine (hunk_group.calls k3 _ _ l0 _ _ y236 a2 x9_2 t241 t242 t243 t244 t245 _ ?side1 ?side2 ?side3 ?side4 A22.out).mono ?_); (case side1 => repeat (first | exact (Kd.C_below HR0.out HB.out) | (with_reducible refine Kd.C_alloc ?_ _) | (with_reducible refine Kd.C_drewN ?_ _) | (with_reducible refine Kd.C_drew ?_))); (case side2 => exact HC0.out); (case side3 => repeat (first | exact (Kd.V_reads' HO240.out).2.2 | (with_reducible refine Kd.C_alloc ?_ _) | (with_reducible refine Kd.C_drewN ?_ _) | (with_reducible refine Kd.C_drew ?_))); (case side4 => exact (Kd.V_reads' HO240.out).2.1); rintro e w27 ⟨v246, rfl, ho0, hb⟩; have n0_ := Aside0.mk (Kd.V_elder' (by (with_reducible repeat (first | apply Kd.V_alloc | apply Kd.V_drewN | apply Kd.V_drew)); exact HO_1.out) (Kd.R_base ho0) hb); have n1_ := Aside0.mk (Kd.S_elder' (by (with_reducible repeat (first | apply Kd.S_alloc | apply Kd.S_drewN | apply Kd.S_drew)); exact HO_8.out) (Kd.R_base ho0) hb); have n2_ := Aside0.mk (Kd.V_elder' (by (with_reducible repeat (first | apply Kd.V_alloc | apply Kd.V_drewN | apply Kd.V_drew)); exact HL233_2.out) (Kd.R_base ho0) hb); have n3_ := Aside0.mk (Kd.V_elder' (by (with_reducible repeat (first | apply Kd.V_alloc | apply Kd.V_drewN | apply Kd.V_drew)); exact HL234_2.out) (Kd.R_base ho0) hb); have n4_ := Aside0.mk (Kd.V_elder' (by (with_reducible repeat (first | apply Kd.V_alloc | apply Kd.V_drewN | apply Kd.V_drew)); exact HL235_2.out) (Kd.R_base ho0) hb); have n5_ := Aside0.mk (Kd.V_elder' (by (with_reducible repeat (first | apply Kd.V_alloc | apply Kd.V_drewN | apply Kd.V_drew)); exact HO240.out) (Kd.R_base ho0) hb); have n6_ := Aside0.mk (Kd.R_lower (Kd.R_newM (M := fun k_ => (w.heap.size ≤ k_)) ho0 (below_size (by repeat (first | (with_reducible first | exact HB.out | apply below_alloc | apply pw_below_drewN | apply below_drew1) | exact HB.out))) (fun k_ h_ => h_)) (below_size (by repeat (first | (with_reducible first | exact HB.out | apply below_alloc | apply pw_below_drewN | apply below_drew1) | exact HB.out)))); have n7_ := Aside0.mk (Kd.C_below (by repeat (first | (with_reducible exact HR233_2.out) | (with_reducible refine Kd.C_alloc ?_ _) | (with_reducible refine Kd.C_drewN ?_ _) | (with_reducible refine Kd.C_drew ?_) | exact HR233_2.out)) hb); have n8_ := Aside0.mk (Kd.C_below (by repeat (first | (with_reducible exact HR234_2.out) | (with_reducible refine Kd.C_alloc ?_ _) | (with_reducible refine Kd.C_drewN ?_ _) | (with_reducible refine Kd.C_drew ?_) | exact HR234_2.out)) hb); have n9_ := Aside0.mk (Kd.C_below (by repeat (first | (with_reducible exact HR235_2.out) | (with_reducible refine Kd.C_alloc ?_ _) | (with_reducible refine Kd.C_drewN ?_ _) | (with_reducible refine Kd.C_drew ?_) | exact HR235_2.out)) hb); have n10_ := Aside0.mk (below_step (by repeat (first | (with_reducible first | exact HB.out | apply below_alloc | apply pw_below_drewN | apply below_drew1) | exact HB.out)) hb); clear HO_1; clear HO_8; clear HL233_2; clear HL234_2; clear HL235_2; clear HO240; clear HR233_2; clear HR234_2; clear HR235_2; clear HB; have HO_1 := n0_; have HO_8 := n1_; have HL233_2 := n2_; have HL234_2 := n3_; have HL235_2 := n4_; have HO240 := n5_; have HO247 := n6_; have HR233_2 := n7_; have HR234_2 := n8_; have HR235_2 := n9_; have HB := n10_; clear n0_ n1_ n2_ n3_ n4_ n5_ n6_ n7_ n8_ n9_ n10_; (try clear hb); (try clear hb2); (try clear hk); (try clear hi); (try clear ho0)) | ((with_reducible refine gate_dst (N := 11) rfl ?_); refine box_event ?hg (N := 11) ?hd (cs := #[.int .i64 0, .int .i64 0, .int .i64 0, .int .i64 0, .slice none 0 0]) (t := 41) ?hr ?_; (case hd => rfl); (case hg => rfl); (case hr => first | (go_simp; done) | (go_simp; rfl)); intro gb248 hg w28 hbox hb; have n0_ := Aside0.mk (Kd.V_below (Kd.V_elderB (by (with_reducible repeat (first | apply Kd.V_alloc | apply Kd.V_drewN | apply Kd.V_drew)); exact HO_1.out) gb248 (Nat.le_of_eq hg.symm)) hb); have n1_ := Aside0.mk (Kd.S_below (Kd.S_elderB (by (with_reducible repeat (first | apply Kd.S_alloc | apply Kd.S_drewN | apply Kd.S_drew)); exact HO_8.out) gb248 (Nat.le_of_eq hg.symm)) hb); have n2_ := Aside0.mk (Kd.V_below (Kd.V_elderB (by (with_reducible repeat (first | apply Kd.V_alloc | apply Kd.V_drewN | apply Kd.V_drew)); exact HL233_2.out) gb248 (Nat.le_of_eq hg.symm)) hb); have n3_ := Aside0.mk (Kd.V_below (Kd.V_elderB (by (with_reducible repeat (first | apply Kd.V_alloc | apply Kd.V_drewN | apply Kd.V_drew)); exact HL234_2.out) gb248 (Nat.le_of_eq hg.symm)) hb); have n4_ := Aside0.mk (Kd.V_below (Kd.V_elderB (by (with_reducible repeat (first | apply Kd.V_alloc | apply Kd.V_drewN | apply Kd.V_drew)); exact HL235_2.out) gb248 (Nat.le_of_eq hg.symm)) hb); have n5_ := Aside0.mk (Kd.V_below (Kd.V_elderB (by (with_reducible repeat (first | apply Kd.V_alloc | apply Kd.V_drewN | apply Kd.V_drew)); exact HO240.out) gb248 (Nat.le_of_eq hg.symm)) hb); have n6_ := Aside0.mk (Kd.R_below (by (with_reducible repeat (first | apply Kd.R_alloc | apply Kd.R_drewN | apply Kd.R_drew)); exact HO247.out) hb); have n7_ := Aside0.mk (Kd.C_below (by repeat (first | (with_reducible exact HR233_2.out) | (with_reducible refine Kd.C_alloc ?_ _) | (with_reducible refine Kd.C_drewN ?_ _) | (with_reducible refine Kd.C_drew ?_) | exact HR233_2.out)) hb); have n8_ := Aside0.mk (Kd.C_below (by repeat (first | (with_reducible exact HR234_2.out) | (with_reducible refine Kd.C_alloc ?_ _) | (with_reducible refine Kd.C_drewN ?_ _) | (with_reducible refine Kd.C_drew ?_) | exact HR234_2.out)) hb); have n9_ := Aside0.mk (Kd.C_below (by repeat (first | (with_reducible exact HR235_2.out) | (with_reducible refine Kd.C_alloc ?_ _) | (with_reducible refine Kd.C_drewN ?_ _) | (with_reducible refine Kd.C_drew ?_) | exact HR235_2.out)) hb); have n10_ := Aside0.mk (below_step (by repeat (first | (with_reducible first | exact HB.out | apply below_alloc | apply pw_below_drewN | apply below_drew1) | exact HB.out)) hb); have n11_ := Aside0.mk (hbox); have n12_ := Aside0.mk ((by rw [hg]; exact (below_size (by repeat (first | (with_reducible first | exact HB.out | apply below_alloc | apply pw_below_drewN | apply below_drew1) | exact HB.out))) : w.heap.size ≤ gb248)); have n13_ := Aside0.mk ((by rw [hg]; exact (below_size (by repeat (first | (with_reducible first | exact HB.out | apply below_alloc | apply pw_below_drewN | apply below_drew1) | exact HB.out))) : w.heap.size ≤ gb248)); clear HO_1; clear HO_8; clear HL233_2; clear HL234_2; clear HL235_2; clear HO240; clear HO247; clear HR233_2; clear HR234_2; clear HR235_2; clear HB; have HO_1 := n0_; have HO_8 := n1_; have HL233_2 := n2_; have HL234_2 := n3_; have HL235_2 := n4_; have HO240 := n5_; have HO247 := n6_; have HR233_2 := n7_; have HR234_2 := n8_; have HR235_2 := n9_; have HB := n10_; have BK248 := n11_; have GW248 := n12_; have GE248 := n13_; clear n0_ n1_ n2_ n3_ n4_ n5_ n6_ n7_ n8_ n9_ n10_ n11_ n12_ n13_; clear hb hbox hg; have hcz29_0 : w28.cell? ⟨gb248, 0, none⟩ = some (.int .i64 0) := (blk_cell BK248.out 0).trans rfl; have hcz29_1 : w28.cell? ⟨gb248, 1, none⟩ = some (.int .i64 0) := (blk_cell BK248.out 1).trans rfl; have hcz29_2 : w28.cell? ⟨gb248, 2, none⟩ = some (.int .i64 0) := (blk_cell BK248.out 2).trans rfl; have hcz29_3 : w28.cell? ⟨gb248, 3, none⟩ = some (.int .i64 0) := (blk_cell BK248.out 3).trans rfl; have hcz29_4 : w28.cell? ⟨gb248, 4, none⟩ = some (.slice none 0 0) := (blk_cell BK248.out 4).trans rfl; have hfz29_0 := blk_frozen BK248.out 0; have hfz29_1 := blk_frozen BK248.out 1; have hfz29_2 := blk_frozen BK248.out 2; have hfz29_3 := blk_frozen BK248.out 3; have hfz29_4 := blk_frozen BK248.out 4; obtain ⟨Ao30, co30, eo30⟩ := Kd.R_slice HO247.out; subst eo30) | ((with_reducible refine gate_store (t := 41) (p := 11) rfl ?_); (try (rw [drewN_self w28]; generalize hq_ : World.drewN w28 _ = w28; have n0_ := Aside0.mk (Kd.V_at hq_ HO_1.out); have n1_ := Aside0.mk (Kd.S_at hq_ HO_8.out); have n2_ := Aside0.mk (Kd.V_at hq_ HL233_2.out); have n3_ := Aside0.mk (Kd.V_at hq_ HL234_2.out); have n4_ := Aside0.mk (Kd.V_at hq_ HL235_2.out); have n5_ := Aside0.mk (Kd.V_at hq_ HO240.out); have n6_ := Aside0.mk (Kd.R_at hq_ HO247.out); have n7_ := Aside0.mk (blk_at hq_ BK248.out); have n8_ := Aside0.mk (Kd.C_at hq_ HR233_2.out); have n9_ := Aside0.mk (Kd.C_at hq_ HR234_2.out); have n10_ := Aside0.mk (Kd.C_at hq_ HR235_2.out); have n11_ := Aside0.mk (below_at hq_ HB.out); clear hq_ HO_1 HO_8 HL233_2 HL234_2 HL235_2 HO240 HO247 BK248 HR233_2 HR234_2 HR235_2 HB; have HO_1 := n0_; have HO_8 := n1_; have HL233_2 := n2_; have HL234_2 := n3_; have HL235_2 := n4_; have HO240 := n5_; have HO247 := n6_; have BK248 := n7_; have HR233_2 := n8_; have HR234_2 := n9_; have HR235_2 := n10_; have HB := n11_; clear n0_ n1_ n2_ n3_ n4_ n5_ n6_ n7_ n8_ n9_ n10_ n11_)); refine store_event (t := 41) (p := 11) (v := ?vo_w31) (w1 := (((((w28.setCell ⟨gb248, 0, none⟩ (.int .i64 t241)).setCell ⟨gb248, 1, none⟩ (.int .i64 t242)).setCell ⟨gb248, 2, none⟩ (.int .i64 t243)).setCell ⟨gb248, 3, none⟩ (.int .i64 t244)).setCell ⟨gb248, 4, none⟩ (.slice Ao30 t245.length co30))) ?hg ?ho ?hn ?hr ?_; (case ho => rfl); (case hg => rfl); (case hn => rfl); (case hr => first | (go_simp; done) | (go_simp; rfl)); intro w31 hw; have n0_ : Aside0 (Kd.V k53 53 w31 w.heap.size (fun k_ => (P1_ k_ ∨ w.heap.size ≤ k_) ∧ some k_ ≠ (u8 : Value).ownBlock ∧ some k_ ≠ (.slice Ao30 t245.length co30 : Value).ownBlock ∧ k_ ≠ gb248) (.slice (some ad233) x1_2.length co13) x1_2) := ⟨(by rw [hw]; exact (by (with_reducible repeat (first | apply Kd.V_alloc | apply Kd.V_drewN | apply Kd.V_drew)); exact Kd.V_mono (Kd.V_far (p := ⟨gb248, 4, none⟩) (Kd.V_far (p := ⟨gb248, 3, none⟩) (Kd.V_far (p := ⟨gb248, 2, none⟩) (Kd.V_far (p := ⟨gb248, 1, none⟩) (Kd.V_far (p := ⟨gb248, 0, none⟩) (Kd.V_mono HO_1.out (fun k_ hk => (⟨hk, hk.2⟩ : _ ∧ k_ ≠ gb248))) (fun _ hk => hk.2) (.int .i64 t241)) (fun _ hk => hk.2) (.int .i64 t242)) (fun _ hk => hk.2) (.int .i64 t243)) (fun _ hk => hk.2) (.int .i64 t244)) (fun _ hk => hk.2) (.slice Ao30 t245.length co30)) (fun _ hk => ⟨hk.1.1.1.1, ⟨hk.1.1.1.2, ⟨hk.1.1.2, hk.1.2⟩⟩⟩)))⟩; have n1_ : Aside0 (Kd.S k41 41 w31 w.heap.size (fun k_ => (w.heap.size ≤ k_) ∧ some k_ ≠ (.slice Ao30 t245.length co30 : Value).ownBlock ∧ k_ ≠ gb248) u8 x8_2) := ⟨(by rw [hw]; exact (by (with_reducible repeat (first | apply Kd.S_alloc | apply Kd.S_drewN | apply Kd.S_drew)); exact Kd.S_mono (Kd.S_far (p := ⟨gb248, 4, none⟩) (Kd.S_far (p := ⟨gb248, 3, none⟩) (Kd.S_far (p := ⟨gb248, 2, none⟩) (Kd.S_far (p := ⟨gb248, 1, none⟩) (Kd.S_far (p := ⟨gb248, 0, none⟩) (Kd.S_mono HO_8.out (fun k_ hk => (⟨hk, hk.2⟩ : _ ∧ k_ ≠ gb248))) (fun _ hk => hk.2) (.int .i64 t241)) (fun _ hk => hk.2) (.int .i64 t242)) (fun _ hk => hk.2) (.int .i64 t243)) (fun _ hk => hk.2) (.int .i64 t244)) (fun _ hk => hk.2) (.slice Ao30 t245.length co30)) (fun _ hk => ⟨hk.1.1.1, ⟨hk.1.1.2, hk.1.2⟩⟩)))⟩; have n2_ : Aside0 (Kd.V Kd.string 9 w31 w.heap.size (fun k_ => (P1_ k_ ∨ w.heap.size ≤ k_) ∧ some k_ ≠ (u8 : Value).ownBlock ∧ some k_ ≠ (.slice Ao30 t245.length co30 : Value).ownBlock ∧ k_ ≠ gb248) (.slice A233_2 ((rd_T53 x1_2 x10_3).f2).length c233_2) ((rd_T53 x1_2 x10_3).f2)) := ⟨(by rw [hw]; exact (by (with_reducible repeat (first | apply Kd.V_alloc | apply Kd.V_drewN | apply Kd.V_drew)); exact Kd.V_mono (Kd.V_far (p := ⟨gb248, 4, none⟩) (Kd.V_far (p := ⟨gb248, 3, none⟩) (Kd.V_far (p := ⟨gb248, 2, none⟩) (Kd.V_far (p := ⟨gb248, 1, none⟩) (Kd.V_far (p := ⟨gb248, 0, none⟩) (Kd.V_mono HL233_2.out (fun k_ hk => (⟨hk, hk.2⟩ : _ ∧ k_ ≠ gb248))) (fun _ hk => hk.2) (.int .i64 t241)) (fun _ hk => hk.2) (.int .i64 t242)) (fun _ hk => hk.2) (.int .i64 t243)) (fun _ hk => hk.2) (.int .i64 t244)) (fun _ hk => hk.2) (.slice Ao30 t245.length co30)) (fun _ hk => ⟨hk.1.1.1.1, ⟨hk.1.1.1.2, ⟨hk.1.1.2, hk.1.2⟩⟩⟩)))⟩; have n3_ : Aside0 (Kd.V Kd.string 9 w31 w.heap.size (fun k_ => (P1_ k_ ∨ w.heap.size ≤ k_) ∧ some k_ ≠ (u8 : Value).ownBlock ∧ some k_ ≠ (.slice Ao30 t245.length co30 : Value).ownBlock ∧ k_ ≠ gb248) (.slice A234_2 ((rd_T53 x1_2 (ji16)).f2).length c234_2) ((rd_T53 x1_2 (ji16)).f2)) := ⟨(by rw [hw]; exact (by (with_reducible repeat (first | apply Kd.V_alloc | apply Kd.V_drewN | apply Kd.V_drew)); exact Kd.V_mono (Kd.V_far (p := ⟨gb248, 4, none⟩) (Kd.V_far (p := ⟨gb248, 3, none⟩) (Kd.V_far (p := ⟨gb248, 2, none⟩) (Kd.V_far (p := ⟨gb248, 1, none⟩) (Kd.V_far (p := ⟨gb248, 0, none⟩) (Kd.V_mono HL234_2.out (fun k_ hk => (⟨hk, hk.2⟩ : _ ∧ k_ ≠ gb248))) (fun _ hk => hk.2) (.int .i64 t241)) (fun _ hk => hk.2) (.int .i64 t242)) (fun _ hk => hk.2) (.int .i64 t243)) (fun _ hk => hk.2) (.int .i64 t244)) (fun _ hk => hk.2) (.slice Ao30 t245.length co30)) (fun _ hk => ⟨hk.1.1.1.1, ⟨hk.1.1.1.2, ⟨hk.1.1.2, hk.1.2⟩⟩⟩)))⟩; have n4_ : Aside0 (Kd.V Kd.string 9 w31 w.heap.size (fun k_ => (P1_ k_ ∨ w.heap.size ≤ k_) ∧ some k_ ≠ (u8 : Value).ownBlock ∧ some k_ ≠ (.slice Ao30 t245.length co30 : Value).ownBlock ∧ k_ ≠ gb248) (.slice A234_2 ((rd_T53 x1_2 (ji16)).f2).length c234_2) ((rd_T53 x1_2 (ji16)).f2)) := ⟨(by rw [hw]; exact (by (with_reducible repeat (first | apply Kd.V_alloc | apply Kd.V_drewN | apply Kd.V_drew)); exact Kd.V_mono (Kd.V_far (p := ⟨gb248, 4, none⟩) (Kd.V_far (p := ⟨gb248, 3, none⟩) (Kd.V_far (p := ⟨gb248, 2, none⟩) (Kd.V_far (p := ⟨gb248, 1, none⟩) (Kd.V_far (p := ⟨gb248, 0, none⟩) (Kd.V_mono HL235_2.out (fun k_ hk => (⟨hk, hk.2⟩ : _ ∧ k_ ≠ gb248))) (fun _ hk => hk.2) (.int .i64 t241)) (fun _ hk => hk.2) (.int .i64 t242)) (fun _ hk => hk.2) (.int .i64 t243)) (fun _ hk => hk.2) (.int .i64 t244)) (fun _ hk => hk.2) (.slice Ao30 t245.length co30)) (fun _ hk => ⟨hk.1.1.1.1, ⟨hk.1.1.1.2, ⟨hk.1.1.2, hk.1.2⟩⟩⟩)))⟩; have n5_ : Aside0 (Kd.V k53 53 w31 w.heap.size (fun k_ => (P1_ k_ ∨ w.heap.size ≤ k_) ∧ some k_ ≠ (u8 : Value).ownBlock ∧ some k_ ≠ (.slice Ao30 t245.length co30 : Value).ownBlock ∧ k_ ≠ gb248) (.slice (some ad233) y236.length co13) y236) := ⟨(by rw [hw]; exact (by (with_reducible repeat (first | apply Kd.V_alloc | apply Kd.V_drewN | apply Kd.V_drew)); exact Kd.V_mono (Kd.V_far (p := ⟨gb248, 4, none⟩) (Kd.V_far (p := ⟨gb248, 3, none⟩) (Kd.V_far (p := ⟨gb248, 2, none⟩) (Kd.V_far (p := ⟨gb248, 1, none⟩) (Kd.V_far (p := ⟨gb248, 0, none⟩) (Kd.V_mono HO240.out (fun k_ hk => (⟨hk, hk.2⟩ : _ ∧ k_ ≠ gb248))) (fun _ hk => hk.2) (.int .i64 t241)) (fun _ hk => hk.2) (.int .i64 t242)) (fun _ hk => hk.2) (.int .i64 t243)) (fun _ hk => hk.2) (.int .i64 t244)) (fun _ hk => hk.2) (.slice Ao30 t245.length co30)) (fun _ hk => ⟨hk.1.1.1.1, ⟨hk.1.1.1.2, ⟨hk.1.1.2, hk.1.2⟩⟩⟩)))⟩; have n6_ : Aside0 (Kd.R Kd.string 9 w31 w.heap.size (fun k_ => (w.heap.size ≤ k_)) (.slice Ao30 t245.length co30) t245) := ⟨(by rw [hw]; exact (by (with_reducible repeat (first | apply Kd.R_alloc | apply Kd.R_drewN | apply Kd.R_drew)); exact Kd.R_mono (Kd.R_far (p := ⟨gb248, 4, none⟩) (Kd.R_far (p := ⟨gb248, 3, none⟩) (Kd.R_far (p := ⟨gb248, 2, none⟩) (Kd.R_far (p := ⟨gb248, 1, none⟩) (Kd.R_far (p := ⟨gb248, 0, none⟩) (Kd.R_types HO247.out BK248.out (by decide)) (fun _ hk => hk.2) (.int .i64 t241)) (fun _ hk => hk.2) (.int .i64 t242)) (fun _ hk => hk.2) (.int .i64 t243)) (fun _ hk => hk.2) (.int .i64 t244)) (fun _ hk => hk.2) (.slice Ao30 t245.length co30)) (fun _ hk => hk.1.1)))⟩; have n7_ : Aside0 (w31.heap[gb248]? = some (.cells #[.int .i64 t241, .int .i64 t242, .int .i64 t243, .int .i64 t244, .slice Ao30 t245.length co30] 41 (0, 0))) := ⟨(by rw [hw]; exact (by (with_reducible repeat (first | refine blk_drewN ?_ _ | refine blk_drew ?_ | refine blk_alloc ?_ _)); refine blk_put (cs := #[.int .i64 t241, .int .i64 t242, .int .i64 t243, .int .i64 t244, .slice none 0 0]) ?_ 4 _ rfl; (with_reducible repeat (first | refine blk_drewN ?_ _ | refine blk_drew ?_ | refine blk_alloc ?_ _)); refine blk_put (cs := #[.int .i64 t241, .int .i64 t242, .int .i64 t243, .int .i64 0, .slice none 0 0]) ?_ 3 _ rfl; (with_reducible repeat (first | refine blk_drewN ?_ _ | refine blk_drew ?_ | refine blk_alloc ?_ _)); refine blk_put (cs := #[.int .i64 t241, .int .i64 t242, .int .i64 0, .int .i64 0, .slice none 0 0]) ?_ 2 _ rfl; (with_reducible repeat (first | refine blk_drewN ?_ _ | refine blk_drew ?_ | refine blk_alloc ?_ _)); refine blk_put (cs := #[.int .i64 t241, .int .i64 0, .int .i64 0, .int .i64 0, .slice none 0 0]) ?_ 1 _ rfl; (with_reducible repeat (first | refine blk_drewN ?_ _ | refine blk_drew ?_ | refine blk_alloc ?_ _)); refine blk_put (cs := #[.int .i64 0, .int .i64 0, .int .i64 0, .int .i64 0, .slice none 0 0]) ?_ 0 _ rfl; (with_reducible repeat (first | refine blk_drewN ?_ _ | refine blk_drew ?_ | refine blk_alloc ?_ _)); exact BK248.out))⟩; have n8_ : Aside0 (Below w.heap.size w w31) := ⟨(by rw [hw]; exact (by repeat (first | (with_reducible first | exact HB.out | apply below_alloc | apply pw_below_drewN | apply below_drew1 | refine below_set ?_ GE248.out) | exact HB.out)))⟩; clear hw; clear HO_1; clear HO_8; clear HL233_2; clear HL234_2; clear HL235_2; clear HO240; clear HO247; clear BK248; clear HB; have HO_1 := n0_; have HO_8 := n1_; have HL233_2 := n2_; have HL234_2 := n3_; have HL235_2 := n4_; have HO240 := n5_; have HO247 := n6_; have BK248 := n7_; have HB := n8_; clear n0_ n1_ n2_ n3_ n4_ n5_ n6_ n7_ n8_; have hcz32_0 : w31.cell? ⟨gb248, 0, none⟩ = some (.int .i64 t241) := (blk_cell BK248.out 0).trans rfl; have hcz32_1 : w31.cell? ⟨gb248, 1, none⟩ = some (.int .i64 t242) := (blk_cell BK248.out 1).trans rfl; have hcz32_2 : w31.cell? ⟨gb248, 2, none⟩ = some (.int .i64 t243) := (blk_cell BK248.out 2).trans rfl; have hcz32_3 : w31.cell? ⟨gb248, 3, none⟩ = some (.int .i64 t244) := (blk_cell BK248.out 3).trans rfl; have hcz32_4 : w31.cell? ⟨gb248, 4, none⟩ = some (.slice Ao30 t245.length co30) := (blk_cell BK248.out 4).trans rfl; have hfz32_0 := blk_frozen BK248.out 0; have hfz32_1 := blk_frozen BK248.out 1; have hfz32_2 := blk_frozen BK248.out 2; have hfz32_3 := blk_frozen BK248.out 3; have hfz32_4 := blk_frozen BK248.out 4) | ((with_reducible refine gate_builtin (b := .append) (xs := #[.tmp 65, .tmp 67]) rfl ?_); at_builtin; refine Kd.S_append k41 (w0 := w) w.heap.size rfl (.tmp 65) (.tmp 67) 23 41 (.agg #[(.int .i64 0), (.int .i64 0), (.int .i64 0), (.int .i64 0), (.slice none 0 0)]) 56 rfl Try.underlying23 info41 rfl (by decide) (by omega) u8 x8_2 (⟨t241, t242, t243, t244, t245⟩ : S41) [.int .i64 t241, .int .i64 t242, .int .i64 t243, .int .i64 t244, .slice Ao30 t245.length co30] (fun k_ => (w.heap.size ≤ k_) ∧ k_ ≠ gb248) (fun k_ => some k_ = (.slice Ao30 t245.length co30 : Value).ownBlock) rfl rfl ?aP (fun k_ hk_ => ((Kd.R_mono (ok' := fun k_ => ((fun k_ => (w.heap.size ≤ k_) ∧ k_ ≠ gb248)) k_ ∧ some k_ ≠ (u8 : Value).ownBlock) (Kd.R_types (Kd.R_apart' (HO247.out) (Kd.S_typed HO_8.out) (by decide)) BK248.out (by decide)) (fun k_ hk => ⟨⟨hk.1.1, hk.2⟩, hk.1.2⟩))).1 k_ hk_.symm) ?aF ?aO ?aB ?aS ?aL ?_; (case aP => exact k41_mkM _ _ _ (⟨t241, t242, t243, t244, t245⟩ : S41) (Kd.R_mono (Kd.R_tight rfl (Kd.R_mono (ok' := fun k_ => ((fun k_ => (w.heap.size ≤ k_) ∧ k_ ≠ gb248)) k_ ∧ some k_ ≠ (u8 : Value).ownBlock) (Kd.R_types (Kd.R_apart' (HO247.out) (Kd.S_typed HO_8.out) (by decide)) BK248.out (by decide)) (fun k_ hk => ⟨⟨hk.1.1, hk.2⟩, hk.1.2⟩))) (fun _ h_ => h_))); (case aB => exact (by repeat (first | (with_reducible first | exact HB.out | apply below_alloc | apply pw_below_drewN | apply below_drew1 | refine below_set ?_ GE248.out) | exact HB.out))); (case aF => exact (fun k_ hk => ⟨(Nat.le_trans (below_size (by repeat (first | (with_reducible first | exact HB.out | apply below_alloc | apply pw_below_drewN | apply below_drew1 | refine below_set ?_ GE248.out) | exact HB.out))) hk), Kd.freshB (g := gb248) (o := .cells #[.int .i64 t241, .int .i64 t242, .int .i64 t243, .int .i64 t244, .slice Ao30 t245.length co30] 41 (0, 0)) (by (with_reducible repeat (first | refine blk_drewN ?_ _ | refine blk_drew ?_ | refine blk_alloc ?_ _)); exact BK248.out) k_ hk⟩)); (case aO => exact (by (with_reducible repeat (first | apply Kd.S_alloc | apply Kd.S_drewN | apply Kd.S_drew)); exact Kd.S_mono HO_8.out (fun k_ hk => ⟨⟨hk.1, hk.2.2⟩, fun e_ => hk.2.1 e_⟩))); (case aS => exact (below_size (by repeat (first | (with_reducible first | exact HB.out | apply below_alloc | apply pw_below_drewN | apply below_drew1 | refine below_set ?_ GE248.out) | exact HB.out)))); (case aL => have := LMc23.out; omega); intro v250 w33 ho hb hg hat; rw [← Ny249.out] at ho; have n0_ := Aside0.mk (Kd.V_afterv (ok := (fun k_ => (P1_ k_ ∨ w.heap.size ≤ k_) ∧ some k_ ≠ (.slice Ao30 t245.length co30 : Value).ownBlock ∧ k_ ≠ gb248)) (by (with_reducible repeat (first | apply Kd.V_alloc | apply Kd.V_drewN | apply Kd.V_drew)); exact Kd.V_mono HO_1.out (fun _ hk => ⟨⟨hk.1, ⟨hk.2.2.1, hk.2.2.2⟩⟩, hk.2.1⟩)) hg hat); have n1_ := Aside0.mk (Kd.V_afterv (ok := (fun k_ => (P1_ k_ ∨ w.heap.size ≤ k_) ∧ some k_ ≠ (.slice Ao30 t245.length co30 : Value).ownBlock ∧ k_ ≠ gb248)) (by (with_reducible repeat (first | apply Kd.V_alloc | apply Kd.V_drewN | apply Kd.V_drew)); exact Kd.V_mono HL233_2.out (fun _ hk => ⟨⟨hk.1, ⟨hk.2.2.1, hk.2.2.2⟩⟩, hk.2.1⟩)) hg hat); have n2_ := Aside0.mk (Kd.V_afterv (ok := (fun k_ => (P1_ k_ ∨ w.heap.size ≤ k_) ∧ some k_ ≠ (.slice Ao30 t245.length co30 : Value).ownBlock ∧ k_ ≠ gb248)) (by (with_reducible repeat (first | apply Kd.V_alloc | apply Kd.V_drewN | apply Kd.V_drew)); exact Kd.V_mono HL234_2.out (fun _ hk => ⟨⟨hk.1, ⟨hk.2.2.1, hk.2.2.2⟩⟩, hk.2.1⟩)) hg hat); have n3_ := Aside0.mk (Kd.V_afterv (ok := (fun k_ => (P1_ k_ ∨ w.heap.size ≤ k_) ∧ some k_ ≠ (.slice Ao30 t245.length co30 : Value).ownBlock ∧ k_ ≠ gb248)) (by (with_reducible repeat (first | apply Kd.V_alloc | apply Kd.V_drewN | apply Kd.V_drew)); exact Kd.V_mono HL235_2.out (fun _ hk => ⟨⟨hk.1, ⟨hk.2.2.1, hk.2.2.2⟩⟩, hk.2.1⟩)) hg hat); have n4_ := Aside0.mk (Kd.V_afterv (ok := (fun k_ => (P1_ k_ ∨ w.heap.size ≤ k_) ∧ some k_ ≠ (.slice Ao30 t245.length co30 : Value).ownBlock ∧ k_ ≠ gb248)) (by (with_reducible repeat (first | apply Kd.V_alloc | apply Kd.V_drewN | apply Kd.V_drew)); exact Kd.V_mono HO240.out (fun _ hk => ⟨⟨hk.1, ⟨hk.2.2.1, hk.2.2.2⟩⟩, hk.2.1⟩)) hg hat); have n5_ := Aside0.mk (blk_grown (g := gb248) (o := .cells #[.int .i64 t241, .int .i64 t242, .int .i64 t243, .int .i64 t244, .slice Ao30 t245.length co30] 41 (0, 0)) (by (with_reducible repeat (first | refine blk_drewN ?_ _ | refine blk_drew ?_ | refine blk_alloc ?_ _)); exact BK248.out) hg (Kd.S_away HO_8.out (fun _ hk => hk.2.2))); have n6_ := Aside0.mk (hb); have n7_ := Aside0.mk (ho); clear HO_1; clear HL233_2; clear HL234_2; clear HL235_2; clear HO240; clear BK248; clear HB; clear HO_8; clear HO247; have HO_1 := n0_; have HL233_2 := n1_; have HL234_2 := n2_; have HL235_2 := n3_; have HO240 := n4_; have BK248 := n5_; have HB := n6_; have HO251 := n7_; clear n0_ n1_ n2_ n3_ n4_ n5_ n6_ n7_; clear ho hb hg hat; have hcz34_0 : w33.cell? ⟨gb248, 0, none⟩ = some (.int .i64 t241) := (blk_cell BK248.out 0).trans rfl; have hcz34_1 : w33.cell? ⟨gb248, 1, none⟩ = some (.int .i64 t242) := (blk_cell BK248.out 1).trans rfl; have hcz34_2 : w33.cell? ⟨gb248, 2, none⟩ = some (.int .i64 t243) := (blk_cell BK248.out 2).trans rfl; have hcz34_3 : w33.cell? ⟨gb248, 3, none⟩ = some (.int .i64 t244) := (blk_cell BK248.out 3).trans rfl; have hcz34_4 : w33.cell? ⟨gb248, 4, none⟩ = some (.slice Ao30 t245.length co30) := (blk_cell BK248.out 4).trans rfl; have hfz34_0 := blk_frozen BK248.out 0; have hfz34_1 := blk_frozen BK248.out 1; have hfz34_2 := blk_frozen BK248.out 2; have hfz34_3 := blk_frozen BK248.out 3; have hfz34_4 := blk_frozen BK248.out 4; have q35 : (x10_3 : Int) ≤ ((x1_2.length : Int) : Int) := of_decide_eq_true (by first | (with_reducible assumption) | assumption); obtain ⟨i035, hi035, _, hsz35, _⟩ := info_parts info53; have hroom35 : x1_2.length ≤ co13 := (Kd.V_reads' HO_1.out).2.1; have hC35 : Kd.F k53 _ _ (some ad233) x1_2.length x1_2 := (Kd.V_at (base := w.heap.size) HO_1.out).2.2; have q035 : (0 : Int) ≤ (x10_3 : Int) := of_decide_eq_true (by first | (with_reducible assumption) | assumption); have hcut35 := cut_from (P := Try.prog) 36 53 .i64 Try.underlying36 hi035 3 hsz35 (some ad233) x1_2.length co13 x10_3 q035 q35; have hr35 := Kd.F_cut (m := (x10_3 : Int).toNat) (c := co13) hC35 (by omega) hroom35; obtain ⟨A35, hA35⟩ : ∃ A1, A1 = (if co13 = (x10_3 : Int).toNat then (some ad233) else ((some ad233) : Option Addr).map (·.add ((x10_3 : Int).toNat * 3))) := ⟨_, rfl⟩; obtain ⟨c35, hc35⟩ : ∃ c1, c1 = co13 - (x10_3 : Int).toNat := ⟨_, rfl⟩; have hy35 : y252.length = x1_2.length - (x10_3 : Int).toNat := (by rw [Ny252.out, List.length_drop] <;> omega); rw [show (x1_2).drop (x10_3 : Int).toNat = y252 from Ny252.out.symm] at hr35; replace hr35 : Kd.F k53 _ _ A35 y252.length y252 := (by rw [hA35]; exact hr35); rw [← hy35, ← hA35, ← hc35] at hcut35; have HO256 := Aside0.mk (show Kd.V k53 53 _ w.heap.size _ (.slice A35 y252.length c35) y252 from Kd.V_mk (by rw [hy35, hc35]; exact Nat.sub_le_sub_right hroom35 _) hr35); have HC256 := Aside0.mk (show y252.length ≤ c35 from by rw [hy35, hc35]; exact Nat.sub_le_sub_right hroom35 _); clear hr35 hC35 hroom35 hi035 hsz35 hc35; have KY35 := Aside0.mk hy35; have KA35 := Aside0.mk hA35; clear hy35 hA35; replace q35 := eq_true q35)))
                go_roundg k3
                case measure => have := HJ3.out; have := HK2.out; have := HK3.out; omega
                case rel => exact ⟨(y252), (y249), (wrap64 (x9_2 + (wrap64 (t244 - t242)))), (by first | rfl | (simp; done) | (simp [*]; done)), H', ⟨by have := HJ3.out; have := HK2.out; have := HK3.out; omega⟩, ⟨by (with_reducible repeat (first | apply Kd.V_alloc | apply Kd.V_drewN | apply Kd.V_drew)); exact Kd.V_mono HO256.out (fun _ hk => ⟨hk.1.1, hk.2⟩)⟩, ⟨by (with_reducible repeat (first | apply Kd.S_alloc | apply Kd.S_drewN | apply Kd.S_drew)); exact Kd.S_mono HO251.out (fun _ hk => hk.1)⟩, ⟨by repeat (first | (with_reducible first | exact HB.out | apply below_alloc | apply pw_below_drewN | apply below_drew1 | refine below_set ?_ GE248.out) | exact HB.out)⟩⟩
               ·rw [if_neg c23] at H
                exact absurd H (by simp)
              ·rw [if_neg c21] at H
               exact absurd H (by simp)
            ·rw [if_neg c18] at H
             exact absurd H (by simp)
           ·rw [if_neg c17] at H
            exact absurd H (by simp)
          ·rw [if_neg c15] at H
           exact absurd H (by simp)
         ·rw [if_neg c14] at H
          have c14b0 : decide (x10_3 < (x1_2.length : Int)) = false := decide_eq_false c14
          clear c14
          by_cases c36 : 0 ≤ x10_3
          ·rw [if_pos c36] at H
           have c36b0 := eq_true c36
           have c36b1 : decide (0 ≤ x10_3) = true := decide_eq_true c36
           clear c36
           by_cases c37 : x10_3 ≤ (x1_2.length : Int)
           ·rw [if_pos c37] at H
            have c37b0 := eq_true c37
            have c37b1 : decide (x10_3 ≤ (x1_2.length : Int)) = true := decide_eq_true c37
            clear c37
            obtain ⟨y257, hy257⟩ : ∃ y_ : List (S53), y_ = (x1_2.take (x10_3 : Int).toNat) := ⟨_, rfl⟩
            replace H : ((hunk_group.f k3 l0 y257 a2 x9_2).bind fun bt262 => (if x8_2.length < 2513169434916 then (hunk_Make.l0 k3 l0 (x1_2.drop (x10_3 : Int).toNat) a2 (x8_2 ++ [(⟨bt262.1, bt262.2.1, bt262.2.2.1, bt262.2.2.2.1, bt262.2.2.2.2⟩ : S41)]) (wrap64 (x9_2 + (wrap64 (bt262.2.2.2.1 - bt262.2.1))))) else (none))) = some (r1, r2) := by first | (rw [hy257]; with_reducible exact H) | (have H2_ := (Option.bind_some _ _).symm.trans H; rw [hy257]; with_reducible exact H2_) | (have H2_ := (Option.bind_some _ _).symm.trans H; with_reducible exact H2_) | with_reducible exact H | (rw [hy257]; exact H) | exact H
            have Ny257 := Aside0.mk hy257
            clear hy257
            replace H := Option.bind_eq_some_iff.mp H
            obtain ⟨⟨t262, t263, t264, t265, t266⟩, A380, H⟩ := H
            replace H : (if x8_2.length < 2513169434916 then (hunk_Make.l0 k3 l0 (x1_2.drop (x10_3 : Int).toNat) a2 (x8_2 ++ [(⟨t262, t263, t264, t265, t266⟩ : S41)]) (wrap64 (x9_2 + (wrap64 (t265 - t263))))) else (none)) = some (r1, r2) := H
            have A38 := Aside0.mk A380
            clear A380
            by_cases c39 : x8_2.length < 2513169434916
            ·rw [if_pos c39] at H
             have LMc39 := Aside0.mk c39
             clear c39
             obtain ⟨y270, hy270⟩ : ∃ y_ : List (S41), y_ = (x8_2 ++ [(⟨t262, t263, t264, t265, t266⟩ : S41)]) := ⟨_, rfl⟩
             replace H : (hunk_Make.l0 k3 l0 (x1_2.drop (x10_3 : Int).toNat) a2 y270 (wrap64 (x9_2 + (wrap64 (t265 - t263))))) = some (r1, r2) := by first | (rw [hy270]; with_reducible exact H) | (have H2_ := (Option.bind_some _ _).symm.trans H; rw [hy270]; with_reducible exact H2_) | (have H2_ := (Option.bind_some _ _).symm.trans H; with_reducible exact H2_) | with_reducible exact H | (rw [hy270]; exact H) | exact H
             have Ny270 := Aside0.mk hy270
             clear hy270
             have c40b0 := eq_true (of_decide_eq_true (by first | (with_reducible assumption) | assumption) : 0 ≤ x10_3)
             have c41b0 := eq_true (of_decide_eq_true (by first | (with_reducible assumption) | assumption) : x10_3 ≤ (x1_2.length : Int))
             obtain ⟨y273, hy273⟩ : ∃ y_ : List (S53), y_ = (x1_2.drop (x10_3 : Int).toNat) := ⟨_, rfl⟩
             replace H : (hunk_Make.l0 k3 l0 y273 a2 y270 (wrap64 (x9_2 + (wrap64 (t265 - t263))))) = some (r1, r2) := by first | (rw [hy273]; with_reducible exact H) | (have H2_ := (Option.bind_some _ _).symm.trans H; rw [hy273]; with_reducible exact H2_) | (have H2_ := (Option.bind_some _ _).symm.trans H; with_reducible exact H2_) | with_reducible exact H | (rw [hy273]; exact H) | exact H
             have Ny273 := Aside0.mk hy273
             clear hy273
             have H' := Aside0.mk H
             clear H
             have q42 : (x10_3 : Int) ≤ ((x1_2.length : Int) : Int) := of_decide_eq_true (by first | (with_reducible assumption) | assumption)
             obtain ⟨i042, hi042, _, hsz42, _⟩ := info_parts info53
             have hroom42 : x1_2.length ≤ co13 := (Kd.V_reads' HO_1.out).2.1
             have hC42 : Kd.F k53 _ _ Ao13 x1_2.length x1_2 := (Kd.V_at (base := w.heap.size) HO_1.out).2.2
             have hcut42 := cut_to (P := Try.prog) 36 53 .i64 Try.underlying36 hi042 Ao13 x1_2.length co13 x10_3 (of_decide_eq_true (by first | (with_reducible assumption) | assumption)) q42 hroom42
             have hr42 := Kd.F_take (m := (x10_3 : Int).toNat) hC42 (by omega)
             have hy42 : y257.length = (x10_3 : Int).toNat := (by rw [Ny257.out, List.length_take]; omega)
             rw [← Ny257.out] at hr42
             rw [← hy42] at hcut42
             have HO261 := Aside0.mk (show Kd.V k53 53 _ w.heap.size _ (.slice Ao13 y257.length co13) y257 from Kd.V_mk (by omega) hr42)
             have HC261 := Aside0.mk (show y257.length ≤ co13 from by omega)
             clear hr42 hC42 hroom42 hi042 hsz42
             have KY42 := Aside0.mk hy42
             clear hy42
             replace q42 := eq_true q42
             go_wp2_with (fail)
             repeat (go_quiet (fail); try go_wp2_with (first | (go_at_call 43; (with_reducible refine (hunk_group.calls k3 _ _ l0 _ _ y257 a2 x9_2 t262 t263 t264 t265 t266 _ ?side1 ?side2 ?side3 ?side4 A38.out).mono ?_); (case side1 => repeat (first | exact (Kd.C_below HR0.out HB.out) | (with_reducible refine Kd.C_alloc ?_ _) | (with_reducible refine Kd.C_drewN ?_ _) | (with_reducible refine Kd.C_drew ?_))); (case side2 => exact HC0.out); (case side3 => repeat (first | exact (Kd.V_reads' HO261.out).2.2 | (with_reducible refine Kd.C_alloc ?_ _) | (with_reducible refine Kd.C_drewN ?_ _) | (with_reducible refine Kd.C_drew ?_))); (case side4 => exact (Kd.V_reads' HO261.out).2.1); rintro e w43 ⟨v267, rfl, ho0, hb⟩; have n0_ := Aside0.mk (Kd.V_elder' (by (with_reducible repeat (first | apply Kd.V_alloc | apply Kd.V_drewN | apply Kd.V_drew)); exact HO_1.out) (Kd.R_base ho0) hb); have n1_ := Aside0.mk (Kd.S_elder' (by (with_reducible repeat (first | apply Kd.S_alloc | apply Kd.S_drewN | apply Kd.S_drew)); exact HO_8.out) (Kd.R_base ho0) hb); have n2_ := Aside0.mk (Kd.V_elder' (by (with_reducible repeat (first | apply Kd.V_alloc | apply Kd.V_drewN | apply Kd.V_drew)); exact HO261.out) (Kd.R_base ho0) hb); have n3_ := Aside0.mk (Kd.R_lower (Kd.R_newM (M := fun k_ => (w.heap.size ≤ k_)) ho0 (below_size (by repeat (first | (with_reducible first | exact HB.out | apply below_alloc | apply pw_below_drewN | apply below_drew1) | exact HB.out))) (fun k_ h_ => h_)) (below_size (by repeat (first | (with_reducible first | exact HB.out | apply below_alloc | apply pw_below_drewN | apply below_drew1) | exact HB.out)))); have n4_ := Aside0.mk (below_step (by repeat (first | (with_reducible first | exact HB.out | apply below_alloc | apply pw_below_drewN | apply below_drew1) | exact HB.out)) hb); clear HO_1; clear HO_8; clear HO261; clear HB; have HO_1 := n0_; have HO_8 := n1_; have HO261 := n2_; have HO268 := n3_; have HB := n4_; clear n0_ n1_ n2_ n3_ n4_; (try clear hb); (try clear hb2); (try clear hk); (try clear hi); (try clear ho0)) | ((with_reducible refine gate_dst (N := 11) rfl ?_); refine box_event ?hg (N := 11) ?hd (cs := #[.int .i64 0, .int .i64 0, .int .i64 0, .int .i64 0, .slice none 0 0]) (t := 41) ?hr ?_; (case hd => rfl); (case hg => rfl); (case hr => first | (go_simp; done) | (go_simp; rfl)); intro gb269 hg w44 hbox hb; have n0_ := Aside0.mk (Kd.V_below (Kd.V_elderB (by (with_reducible repeat (first | apply Kd.V_alloc | apply Kd.V_drewN | apply Kd.V_drew)); exact HO_1.out) gb269 (Nat.le_of_eq hg.symm)) hb); have n1_ := Aside0.mk (Kd.S_below (Kd.S_elderB (by (with_reducible repeat (first | apply Kd.S_alloc | apply Kd.S_drewN | apply Kd.S_drew)); exact HO_8.out) gb269 (Nat.le_of_eq hg.symm)) hb); have n2_ := Aside0.mk (Kd.V_below (Kd.V_elderB (by (with_reducible repeat (first | apply Kd.V_alloc | apply Kd.V_drewN | apply Kd.V_drew)); exact HO261.out) gb269 (Nat.le_of_eq hg.symm)) hb); have n3_ := Aside0.mk (Kd.R_below (by (with_reducible repeat (first | apply Kd.R_alloc | apply Kd.R_drewN | apply Kd.R_drew)); exact HO268.out) hb); have n4_ := Aside0.mk (below_step (by repeat (first | (with_reducible first | exact HB.out | apply below_alloc | apply pw_below_drewN | apply below_drew1) | exact HB.out)) hb); have n5_ := Aside0.mk (hbox); have n6_ := Aside0.mk ((by rw [hg]; exact (below_size (by repeat (first | (with_reducible first | exact HB.out | apply below_alloc | apply pw_below_drewN | apply below_drew1) | exact HB.out))) : w.heap.size ≤ gb269)); have n7_ := Aside0.mk ((by rw [hg]; exact (below_size (by repeat (first | (with_reducible first | exact HB.out | apply below_alloc | apply pw_below_drewN | apply below_drew1) | exact HB.out))) : w.heap.size ≤ gb269)); clear HO_1; clear HO_8; clear HO261; clear HO268; clear HB; have HO_1 := n0_; have HO_8 := n1_; have HO261 := n2_; have HO268 := n3_; have HB := n4_; have BK269 := n5_; have GW269 := n6_; have GE269 := n7_; clear n0_ n1_ n2_ n3_ n4_ n5_ n6_ n7_; clear hb hbox hg; have hcz45_0 : w44.cell? ⟨gb269, 0, none⟩ = some (.int .i64 0) := (blk_cell BK269.out 0).trans rfl; have hcz45_1 : w44.cell? ⟨gb269, 1, none⟩ = some (.int .i64 0) := (blk_cell BK269.out 1).trans rfl; have hcz45_2 : w44.cell? ⟨gb269, 2, none⟩ = some (.int .i64 0) := (blk_cell BK269.out 2).trans rfl; have hcz45_3 : w44.cell? ⟨gb269, 3, none⟩ = some (.int .i64 0) := (blk_cell BK269.out 3).trans rfl; have hcz45_4 : w44.cell? ⟨gb269, 4, none⟩ = some (.slice none 0 0) := (blk_cell BK269.out 4).trans rfl; have hfz45_0 := blk_frozen BK269.out 0; have hfz45_1 := blk_frozen BK269.out 1; have hfz45_2 := blk_frozen BK269.out 2; have hfz45_3 := blk_frozen BK269.out 3; have hfz45_4 := blk_frozen BK269.out 4; obtain ⟨Ao46, co46, eo46⟩ := Kd.R_slice HO268.out; subst eo46) | ((with_reducible refine gate_store (t := 41) (p := 11) rfl ?_); (try (rw [drewN_self w44]; generalize hq_ : World.drewN w44 _ = w44; have n0_ := Aside0.mk (Kd.V_at hq_ HO_1.out); have n1_ := Aside0.mk (Kd.S_at hq_ HO_8.out); have n2_ := Aside0.mk (Kd.V_at hq_ HO261.out); have n3_ := Aside0.mk (Kd.R_at hq_ HO268.out); have n4_ := Aside0.mk (blk_at hq_ BK269.out); have n5_ := Aside0.mk (below_at hq_ HB.out); clear hq_ HO_1 HO_8 HO261 HO268 BK269 HB; have HO_1 := n0_; have HO_8 := n1_; have HO261 := n2_; have HO268 := n3_; have BK269 := n4_; have HB := n5_; clear n0_ n1_ n2_ n3_ n4_ n5_)); refine store_event (t := 41) (p := 11) (v := ?vo_w47) (w1 := (((((w44.setCell ⟨gb269, 0, none⟩ (.int .i64 t262)).setCell ⟨gb269, 1, none⟩ (.int .i64 t263)).setCell ⟨gb269, 2, none⟩ (.int .i64 t264)).setCell ⟨gb269, 3, none⟩ (.int .i64 t265)).setCell ⟨gb269, 4, none⟩ (.slice Ao46 t266.length co46))) ?hg ?ho ?hn ?hr ?_; (case ho => rfl); (case hg => rfl); (case hn => rfl); (case hr => first | (go_simp; done) | (go_simp; rfl)); intro w47 hw; have n0_ : Aside0 (Kd.V k53 53 w47 w.heap.size (fun k_ => (P1_ k_ ∨ w.heap.size ≤ k_) ∧ some k_ ≠ (u8 : Value).ownBlock ∧ some k_ ≠ (.slice Ao46 t266.length co46 : Value).ownBlock ∧ k_ ≠ gb269) (.slice Ao13 x1_2.length co13) x1_2) := ⟨(by rw [hw]; exact (by (with_reducible repeat (first | apply Kd.V_alloc | apply Kd.V_drewN | apply Kd.V_drew)); exact Kd.V_mono (Kd.V_far (p := ⟨gb269, 4, none⟩) (Kd.V_far (p := ⟨gb269, 3, none⟩) (Kd.V_far (p := ⟨gb269, 2, none⟩) (Kd.V_far (p := ⟨gb269, 1, none⟩) (Kd.V_far (p := ⟨gb269, 0, none⟩) (Kd.V_mono HO_1.out (fun k_ hk => (⟨hk, hk.2⟩ : _ ∧ k_ ≠ gb269))) (fun _ hk => hk.2) (.int .i64 t262)) (fun _ hk => hk.2) (.int .i64 t263)) (fun _ hk => hk.2) (.int .i64 t264)) (fun _ hk => hk.2) (.int .i64 t265)) (fun _ hk => hk.2) (.slice Ao46 t266.length co46)) (fun _ hk => ⟨hk.1.1.1.1, ⟨hk.1.1.1.2, ⟨hk.1.1.2, hk.1.2⟩⟩⟩)))⟩; have n1_ : Aside0 (Kd.S k41 41 w47 w.heap.size (fun k_ => (w.heap.size ≤ k_) ∧ some k_ ≠ (.slice Ao46 t266.length co46 : Value).ownBlock ∧ k_ ≠ gb269) u8 x8_2) := ⟨(by rw [hw]; exact (by (with_reducible repeat (first | apply Kd.S_alloc | apply Kd.S_drewN | apply Kd.S_drew)); exact Kd.S_mono (Kd.S_far (p := ⟨gb269, 4, none⟩) (Kd.S_far (p := ⟨gb269, 3, none⟩) (Kd.S_far (p := ⟨gb269, 2, none⟩) (Kd.S_far (p := ⟨gb269, 1, none⟩) (Kd.S_far (p := ⟨gb269, 0, none⟩) (Kd.S_mono HO_8.out (fun k_ hk => (⟨hk, hk.2⟩ : _ ∧ k_ ≠ gb269))) (fun _ hk => hk.2) (.int .i64 t262)) (fun _ hk => hk.2) (.int .i64 t263)) (fun _ hk => hk.2) (.int .i64 t264)) (fun _ hk => hk.2) (.int .i64 t265)) (fun _ hk => hk.2) (.slice Ao46 t266.length co46)) (fun _ hk => ⟨hk.1.1.1, ⟨hk.1.1.2, hk.1.2⟩⟩)))⟩; have n2_ : Aside0 (Kd.V k53 53 w47 w.heap.size (fun k_ => (P1_ k_ ∨ w.heap.size ≤ k_) ∧ some k_ ≠ (u8 : Value).ownBlock ∧ some k_ ≠ (.slice Ao46 t266.length co46 : Value).ownBlock ∧ k_ ≠ gb269) (.slice Ao13 y257.length co13) y257) := ⟨(by rw [hw]; exact (by (with_reducible repeat (first | apply Kd.V_alloc | apply Kd.V_drewN | apply Kd.V_drew)); exact Kd.V_mono (Kd.V_far (p := ⟨gb269, 4, none⟩) (Kd.V_far (p := ⟨gb269, 3, none⟩) (Kd.V_far (p := ⟨gb269, 2, none⟩) (Kd.V_far (p := ⟨gb269, 1, none⟩) (Kd.V_far (p := ⟨gb269, 0, none⟩) (Kd.V_mono HO261.out (fun k_ hk => (⟨hk, hk.2⟩ : _ ∧ k_ ≠ gb269))) (fun _ hk => hk.2) (.int .i64 t262)) (fun _ hk => hk.2) (.int .i64 t263)) (fun _ hk => hk.2) (.int .i64 t264)) (fun _ hk => hk.2) (.int .i64 t265)) (fun _ hk => hk.2) (.slice Ao46 t266.length co46)) (fun _ hk => ⟨hk.1.1.1.1, ⟨hk.1.1.1.2, ⟨hk.1.1.2, hk.1.2⟩⟩⟩)))⟩; have n3_ : Aside0 (Kd.R Kd.string 9 w47 w.heap.size (fun k_ => (w.heap.size ≤ k_)) (.slice Ao46 t266.length co46) t266) := ⟨(by rw [hw]; exact (by (with_reducible repeat (first | apply Kd.R_alloc | apply Kd.R_drewN | apply Kd.R_drew)); exact Kd.R_mono (Kd.R_far (p := ⟨gb269, 4, none⟩) (Kd.R_far (p := ⟨gb269, 3, none⟩) (Kd.R_far (p := ⟨gb269, 2, none⟩) (Kd.R_far (p := ⟨gb269, 1, none⟩) (Kd.R_far (p := ⟨gb269, 0, none⟩) (Kd.R_types HO268.out BK269.out (by decide)) (fun _ hk => hk.2) (.int .i64 t262)) (fun _ hk => hk.2) (.int .i64 t263)) (fun _ hk => hk.2) (.int .i64 t264)) (fun _ hk => hk.2) (.int .i64 t265)) (fun _ hk => hk.2) (.slice Ao46 t266.length co46)) (fun _ hk => hk.1.1)))⟩; have n4_ : Aside0 (w47.heap[gb269]? = some (.cells #[.int .i64 t262, .int .i64 t263, .int .i64 t264, .int .i64 t265, .slice Ao46 t266.length co46] 41 (0, 0))) := ⟨(by rw [hw]; exact (by (with_reducible repeat (first | refine blk_drewN ?_ _ | refine blk_drew ?_ | refine blk_alloc ?_ _)); refine blk_put (cs := #[.int .i64 t262, .int .i64 t263, .int .i64 t264, .int .i64 t265, .slice none 0 0]) ?_ 4 _ rfl; (with_reducible repeat (first | refine blk_drewN ?_ _ | refine blk_drew ?_ | refine blk_alloc ?_ _)); refine blk_put (cs := #[.int .i64 t262, .int .i64 t263, .int .i64 t264, .int .i64 0, .slice none 0 0]) ?_ 3 _ rfl; (with_reducible repeat (first | refine blk_drewN ?_ _ | refine blk_drew ?_ | refine blk_alloc ?_ _)); refine blk_put (cs := #[.int .i64 t262, .int .i64 t263, .int .i64 0, .int .i64 0, .slice none 0 0]) ?_ 2 _ rfl; (with_reducible repeat (first | refine blk_drewN ?_ _ | refine blk_drew ?_ | refine blk_alloc ?_ _)); refine blk_put (cs := #[.int .i64 t262, .int .i64 0, .int .i64 0, .int .i64 0, .slice none 0 0]) ?_ 1 _ rfl; (with_reducible repeat (first | refine blk_drewN ?_ _ | refine blk_drew ?_ | refine blk_alloc ?_ _)); refine blk_put (cs := #[.int .i64 0, .int .i64 0, .int .i64 0, .int .i64 0, .slice none 0 0]) ?_ 0 _ rfl; (with_reducible repeat (first | refine blk_drewN ?_ _ | refine blk_drew ?_ | refine blk_alloc ?_ _)); exact BK269.out))⟩; have n5_ : Aside0 (Below w.heap.size w w47) := ⟨(by rw [hw]; exact (by repeat (first | (with_reducible first | exact HB.out | apply below_alloc | apply pw_below_drewN | apply below_drew1 | refine below_set ?_ GE269.out) | exact HB.out)))⟩; clear hw; clear HO_1; clear HO_8; clear HO261; clear HO268; clear BK269; clear HB; have HO_1 := n0_; have HO_8 := n1_; have HO261 := n2_; have HO268 := n3_; have BK269 := n4_; have HB := n5_; clear n0_ n1_ n2_ n3_ n4_ n5_; have hcz48_0 : w47.cell? ⟨gb269, 0, none⟩ = some (.int .i64 t262) := (blk_cell BK269.out 0).trans rfl; have hcz48_1 : w47.cell? ⟨gb269, 1, none⟩ = some (.int .i64 t263) := (blk_cell BK269.out 1).trans rfl; have hcz48_2 : w47.cell? ⟨gb269, 2, none⟩ = some (.int .i64 t264) := (blk_cell BK269.out 2).trans rfl; have hcz48_3 : w47.cell? ⟨gb269, 3, none⟩ = some (.int .i64 t265) := (blk_cell BK269.out 3).trans rfl; have hcz48_4 : w47.cell? ⟨gb269, 4, none⟩ = some (.slice Ao46 t266.length co46) := (blk_cell BK269.out 4).trans rfl; have hfz48_0 := blk_frozen BK269.out 0; have hfz48_1 := blk_frozen BK269.out 1; have hfz48_2 := blk_frozen BK269.out 2; have hfz48_3 := blk_frozen BK269.out 3; have hfz48_4 := blk_frozen BK269.out 4) | ((with_reducible refine gate_builtin (b := .append) (xs := #[.tmp 65, .tmp 67]) rfl ?_); at_builtin; refine Kd.S_append k41 (w0 := w) w.heap.size rfl (.tmp 65) (.tmp 67) 23 41 (.agg #[(.int .i64 0), (.int .i64 0), (.int .i64 0), (.int .i64 0), (.slice none 0 0)]) 56 rfl Try.underlying23 info41 rfl (by decide) (by omega) u8 x8_2 (⟨t262, t263, t264, t265, t266⟩ : S41) [.int .i64 t262, .int .i64 t263, .int .i64 t264, .int .i64 t265, .slice Ao46 t266.length co46] (fun k_ => (w.heap.size ≤ k_) ∧ k_ ≠ gb269) (fun k_ => some k_ = (.slice Ao46 t266.length co46 : Value).ownBlock) rfl rfl ?aP (fun k_ hk_ => ((Kd.R_mono (ok' := fun k_ => ((fun k_ => (w.heap.size ≤ k_) ∧ k_ ≠ gb269)) k_ ∧ some k_ ≠ (u8 : Value).ownBlock) (Kd.R_types (Kd.R_apart' (HO268.out) (Kd.S_typed HO_8.out) (by decide)) BK269.out (by decide)) (fun k_ hk => ⟨⟨hk.1.1, hk.2⟩, hk.1.2⟩))).1 k_ hk_.symm) ?aF ?aO ?aB ?aS ?aL ?_; (case aP => exact k41_mkM _ _ _ (⟨t262, t263, t264, t265, t266⟩ : S41) (Kd.R_mono (Kd.R_tight rfl (Kd.R_mono (ok' := fun k_ => ((fun k_ => (w.heap.size ≤ k_) ∧ k_ ≠ gb269)) k_ ∧ some k_ ≠ (u8 : Value).ownBlock) (Kd.R_types (Kd.R_apart' (HO268.out) (Kd.S_typed HO_8.out) (by decide)) BK269.out (by decide)) (fun k_ hk => ⟨⟨hk.1.1, hk.2⟩, hk.1.2⟩))) (fun _ h_ => h_))); (case aB => exact (by repeat (first | (with_reducible first | exact HB.out | apply below_alloc | apply pw_below_drewN | apply below_drew1 | refine below_set ?_ GE269.out) | exact HB.out))); (case aF => exact (fun k_ hk => ⟨(Nat.le_trans (below_size (by repeat (first | (with_reducible first | exact HB.out | apply below_alloc | apply pw_below_drewN | apply below_drew1 | refine below_set ?_ GE269.out) | exact HB.out))) hk), Kd.freshB (g := gb269) (o := .cells #[.int .i64 t262, .int .i64 t263, .int .i64 t264, .int .i64 t265, .slice Ao46 t266.length co46] 41 (0, 0)) (by (with_reducible repeat (first | refine blk_drewN ?_ _ | refine blk_drew ?_ | refine blk_alloc ?_ _)); exact BK269.out) k_ hk⟩)); (case aO => exact (by (with_reducible repeat (first | apply Kd.S_alloc | apply Kd.S_drewN | apply Kd.S_drew)); exact Kd.S_mono HO_8.out (fun k_ hk => ⟨⟨hk.1, hk.2.2⟩, fun e_ => hk.2.1 e_⟩))); (case aS => exact (below_size (by repeat (first | (with_reducible first | exact HB.out | apply below_alloc | apply pw_below_drewN | apply below_drew1 | refine below_set ?_ GE269.out) | exact HB.out)))); (case aL => have := LMc39.out; omega); intro v271 w49 ho hb hg hat; rw [← Ny270.out] at ho; have n0_ := Aside0.mk (Kd.V_afterv (ok := (fun k_ => (P1_ k_ ∨ w.heap.size ≤ k_) ∧ some k_ ≠ (.slice Ao46 t266.length co46 : Value).ownBlock ∧ k_ ≠ gb269)) (by (with_reducible repeat (first | apply Kd.V_alloc | apply Kd.V_drewN | apply Kd.V_drew)); exact Kd.V_mono HO_1.out (fun _ hk => ⟨⟨hk.1, ⟨hk.2.2.1, hk.2.2.2⟩⟩, hk.2.1⟩)) hg hat); have n1_ := Aside0.mk (Kd.V_afterv (ok := (fun k_ => (P1_ k_ ∨ w.heap.size ≤ k_) ∧ some k_ ≠ (.slice Ao46 t266.length co46 : Value).ownBlock ∧ k_ ≠ gb269)) (by (with_reducible repeat (first | apply Kd.V_alloc | apply Kd.V_drewN | apply Kd.V_drew)); exact Kd.V_mono HO261.out (fun _ hk => ⟨⟨hk.1, ⟨hk.2.2.1, hk.2.2.2⟩⟩, hk.2.1⟩)) hg hat); have n2_ := Aside0.mk (blk_grown (g := gb269) (o := .cells #[.int .i64 t262, .int .i64 t263, .int .i64 t264, .int .i64 t265, .slice Ao46 t266.length co46] 41 (0, 0)) (by (with_reducible repeat (first | refine blk_drewN ?_ _ | refine blk_drew ?_ | refine blk_alloc ?_ _)); exact BK269.out) hg (Kd.S_away HO_8.out (fun _ hk => hk.2.2))); have n3_ := Aside0.mk (hb); have n4_ := Aside0.mk (ho); clear HO_1; clear HO261; clear BK269; clear HB; clear HO_8; clear HO268; have HO_1 := n0_; have HO261 := n1_; have BK269 := n2_; have HB := n3_; have HO272 := n4_; clear n0_ n1_ n2_ n3_ n4_; clear ho hb hg hat; have hcz50_0 : w49.cell? ⟨gb269, 0, none⟩ = some (.int .i64 t262) := (blk_cell BK269.out 0).trans rfl; have hcz50_1 : w49.cell? ⟨gb269, 1, none⟩ = some (.int .i64 t263) := (blk_cell BK269.out 1).trans rfl; have hcz50_2 : w49.cell? ⟨gb269, 2, none⟩ = some (.int .i64 t264) := (blk_cell BK269.out 2).trans rfl; have hcz50_3 : w49.cell? ⟨gb269, 3, none⟩ = some (.int .i64 t265) := (blk_cell BK269.out 3).trans rfl; have hcz50_4 : w49.cell? ⟨gb269, 4, none⟩ = some (.slice Ao46 t266.length co46) := (blk_cell BK269.out 4).trans rfl; have hfz50_0 := blk_frozen BK269.out 0; have hfz50_1 := blk_frozen BK269.out 1; have hfz50_2 := blk_frozen BK269.out 2; have hfz50_3 := blk_frozen BK269.out 3; have hfz50_4 := blk_frozen BK269.out 4; have q51 : (x10_3 : Int) ≤ ((x1_2.length : Int) : Int) := of_decide_eq_true (by first | (with_reducible assumption) | assumption); obtain ⟨i051, hi051, _, hsz51, _⟩ := info_parts info53; have hroom51 : x1_2.length ≤ co13 := (Kd.V_reads' HO_1.out).2.1; have hC51 : Kd.F k53 _ _ Ao13 x1_2.length x1_2 := (Kd.V_at (base := w.heap.size) HO_1.out).2.2; have q051 : (0 : Int) ≤ (x10_3 : Int) := of_decide_eq_true (by first | (with_reducible assumption) | assumption); have hcut51 := cut_from (P := Try.prog) 36 53 .i64 Try.underlying36 hi051 3 hsz51 Ao13 x1_2.length co13 x10_3 q051 q51; have hr51 := Kd.F_cut (m := (x10_3 : Int).toNat) (c := co13) hC51 (by omega) hroom51; obtain ⟨A51, hA51⟩ : ∃ A1, A1 = (if co13 = (x10_3 : Int).toNat then Ao13 else (Ao13 : Option Addr).map (·.add ((x10_3 : Int).toNat * 3))) := ⟨_, rfl⟩; obtain ⟨c51, hc51⟩ : ∃ c1, c1 = co13 - (x10_3 : Int).toNat := ⟨_, rfl⟩; have hy51 : y273.length = x1_2.length - (x10_3 : Int).toNat := (by rw [Ny273.out, List.length_drop] <;> omega); rw [show (x1_2).drop (x10_3 : Int).toNat = y273 from Ny273.out.symm] at hr51; replace hr51 : Kd.F k53 _ _ A51 y273.length y273 := (by rw [hA51]; exact hr51); rw [← hy51, ← hA51, ← hc51] at hcut51; have HO277 := Aside0.mk (show Kd.V k53 53 _ w.heap.size _ (.slice A51 y273.length c51) y273 from Kd.V_mk (by rw [hy51, hc51]; exact Nat.sub_le_sub_right hroom51 _) hr51); have HC277 := Aside0.mk (show y273.length ≤ c51 from by rw [hy51, hc51]; exact Nat.sub_le_sub_right hroom51 _); clear hr51 hC51 hroom51 hi051 hsz51 hc51; have KY51 := Aside0.mk hy51; have KA51 := Aside0.mk hA51; clear hy51 hA51; replace q51 := eq_true q51)))
             go_roundg k3
             case measure => have := HJ3.out; have := HK2.out; have := HK3.out; omega
             case rel => exact ⟨(y273), (y270), (wrap64 (x9_2 + (wrap64 (t265 - t263)))), (by first | rfl | (simp; done) | (simp [*]; done)), H', ⟨by have := HJ3.out; have := HK2.out; have := HK3.out; omega⟩, ⟨by (with_reducible repeat (first | apply Kd.V_alloc | apply Kd.V_drewN | apply Kd.V_drew)); exact Kd.V_mono HO277.out (fun _ hk => ⟨hk.1.1, hk.2⟩)⟩, ⟨by (with_reducible repeat (first | apply Kd.S_alloc | apply Kd.S_drewN | apply Kd.S_drew)); exact Kd.S_mono HO272.out (fun _ hk => hk.1)⟩, ⟨by repeat (first | (with_reducible first | exact HB.out | apply below_alloc | apply pw_below_drewN | apply below_drew1 | refine below_set ?_ GE269.out) | exact HB.out)⟩⟩
            ·rw [if_neg c39] at H
             exact absurd H (by simp)
           ·rw [if_neg c37] at H
            exact absurd H (by simp)
          ·rw [if_neg c36] at H
           exact absurd H (by simp)
      ·rw [if_neg c12] at H
       have c12b0 : decide (0 < (x1_2.length : Int)) = false := decide_eq_false c12
       have c12b1 : decide (0 < x1_2.length) = false := decide_eq_false (by omega)
       clear c12
       simp only [Option.some.injEq, Prod.mk.injEq] at H
       obtain ⟨rfl, rfl⟩ := H
       obtain ⟨Ao52, co52, eo52⟩ := Kd.V_slice HO_1.out
       subst eo52
       go_wp2
       go_ret2
       exact ⟨_, by first | rfl | (simp [errW_none, errW_some] <;> rfl) | (simp [*, errW_none, errW_some] <;> rfl), by (with_reducible repeat (first | apply Kd.S_alloc | apply Kd.S_drewN | apply Kd.S_drew)); exact HO_8.out, by repeat (first | (with_reducible first | exact HB.out | apply below_alloc | apply pw_below_drewN | apply below_drew1) | exact HB.out)⟩


end Go.Proofs.Ytoaijganmfijmaa.Pr
-- shrunk
