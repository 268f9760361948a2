/-
Contracts of slices.Clone, slices.Grow (of a nil slice) and slices.Concat at []string: what they answer, for lists of at most 2^42 elements.
-/
import Derived.WalkSpells
import Derived.Test.YtlabiajcohmjhaaD0
namespace Go.Proofs.Ytlabiajcohmjhaa.Pr
open Go.RowKit Go.Proofs.YtlabiajcohmjhaaW.PrintWords Go.Proofs.YtlabiajcohmjhaaW.PrintLast Go.Proofs.YtlabiajcohmjhaaW.PrintMore
set_option linter.unusedVariables false
set_option linter.unusedSimpArgs false
theorem ginfoStr : (Try.prog.info? 9).map (fun i => (i.zero, i.size, i.bytes)) = some (some (.string ⟨#[]⟩), 1, 16) := by kernel_rfl
theorem at_strs {w : World} {A : Option Addr} {xs : List (List ByteArray)} (h : Kd.C (Kd.slice 9 Kd.string) w A xs.length xs) (i : Nat) (hi : i < xs.length) : ∃ ad A0 c0, A = some ad ∧ w.cell? (ad.add i) = some (.slice A0 (xs[i]).length c0) ∧ (xs[i]).length ≤ c0 ∧ Kd.string.C w A0 (xs[i]).length (xs[i]) := by
 obtain ⟨ad, e, hc⟩ := h.2.2 (by omega)
 obtain ⟨c, _, ⟨A0, c0, rfl, l0, g0⟩, h3⟩ := hc i (xs[i]) (List.getElem?_eq_getElem hi)
 have h4 := h3 0 _ rfl
 rw [show (Kd.slice 9 Kd.string).sz = 1 from rfl, Nat.mul_one, Nat.add_zero] at h4
 exact ⟨ad, A0, c0, e, h4, l0, g0⟩
def slices_Clone_string_string.f (l0 : List ByteArray) : Option (List ByteArray) := if l0.length ≤ 4398046511104 then some l0 else none
set_option maxHeartbeats 400000 in
theorem slices_Clone_string_string.calls (A0 : Option Addr) (c0 : Nat) (l0 : List ByteArray) (r : List ByteArray) (w : World) (hr0 : Kd.C Kd.string w A0 l0.length l0) (hc0 : l0.length ≤ c0) (h : slices_Clone_string_string.f l0 = some r) :
  Calls Try.prog 40 #[.slice A0 l0.length c0] w fun e w' => ∃ v0_ : Value, e = .returned (v0_) ∧ Kd.R Kd.string 9 w' w.heap.size (fun _ => True) v0_ r ∧ Below w.heap.size w w' := by
 unfold slices_Clone_string_string.f at h
 by_cases hl : l0.length ≤ 4398046511104
 ·rw [if_pos hl] at h
  obtain rfl := Option.some.inj h
  have HR := Aside0.mk hr0
  have HC := Aside0.mk hc0
  clear h hr0 hc0
  rcases A0 with _ | ad
  ·have he := fun W => Lib.run_eql_slice_nil (P := Try.prog) W 22 9 none l0.length c0 0 0 Try.underlying22
   have h0 : l0 = [] := by
    rcases Nat.eq_zero_or_pos l0.length with h0 | h0
    ·exact List.eq_nil_of_length_eq_zero h0
    ·obtain ⟨ad, h, _⟩ := HR.out.2.2 h0
     cases h
   have H0 := Aside0.mk h0
   clear h0
   go_enter Try.func40, Try.ntmps40
   go_wp2
   go_ret
   refine ⟨_, rfl, ?_, Below.refl _ _⟩
   rw [H0.out]
   exact Kd.R_nil _ _ _ _ _
  ·have he := fun W => Lib.run_eql_slice_nil (P := Try.prog) W 22 9 (some ad) l0.length c0 0 0 Try.underlying22
   go_enter Try.func40, Try.ntmps40
   have HB := Aside0.mk (Below.refl w.heap.size w)
   go_wp2_with (first | ((with_reducible refine gate_dst (N := 5) rfl ?_); (try (refine gate_guard (by rfl) ?_; dsimp only)); refine Kd.R_lit Kd.string w.heap.size 9 ?hg (N := 5) ?hd (xs := ([] : List ByteArray)) (inner := []) (ok := fun _ => True) (okp := fun _ => True) ?hr ?hp (fun _ hk => hk) trivial HB.out (Nat.le_refl _) (by simp) ?_; (case hd => rfl); (case hg => rfl); (case hr => first | (go_simp; done) | (go_simp; rfl)); (case hp => exact (Reps.none _ _)); intro v1 w1 ho hb hg_ hnew_; clear hg_ hnew_; have HO := Aside0.mk ho; have HBb := Aside0.mk hb; clear ho hb) | (at_builtin; refine Kd.R_append_rows Kd.string (w0 := w) w.heap.size rfl (.tmp 5) (.tmp 6) 22 9 (.string ⟨#[]⟩) 16 rfl Try.underlying22 ginfoStr rfl (by decide) (by omega) v1 [] l0 _ _ _ (fun _ => True) (fun _ => False) rfl rfl HO.out (Kd.C_below HR.out HBb.out) (fun _ _ h => h) (fun _ h => h.elim) (fun _ _ => trivial) HBb.out HBb.out.size (by simp; omega) ?_; intro v2 w2 ho hb hg hat; have HO2 := Aside0.mk ho; have HB2 := Aside0.mk hb; clear ho hb hg hat))
   go_ret
   exact ⟨_, rfl, HO2.out, HB2.out⟩
 ·rw [if_neg hl] at h; cases h
set_option maxHeartbeats 400000 in
theorem slices_Grow_nil (n : Int) (w : World) (h0 : 0 ≤ n) (hn : n.toNat ≤ 4398046511104) :
  Calls Try.prog 42 #[.slice none 0 0, .int .i64 n] w fun e w' => ∃ v0_ : Value, e = .returned (v0_) ∧ Kd.R Kd.string 9 w' w.heap.size (fun _ => True) v0_ [] ∧ Below w.heap.size w w' := by
 have HB := Aside0.mk (Below.refl w.heap.size w)
 have f0 : decide (n < 0) = false := by simp; omega
 by_cases hp : 0 < n
 ·have f1 : decide (0 < n) = true := by simp; omega
  go_enter Try.func42, Try.ntmps42
  go_wp2_with (first | ((with_reducible refine gate_builtin (b := .append) (xs := #[.tmp 20, .tmp 21]) rfl ?_); (at_builtin; refine Kd.R_append_zeros Kd.string (w0 := w) w.heap.size rfl (.tmp 20) (.tmp 21) 22 3 9 (.string ⟨#[]⟩) 16 rfl Try.underlying22 Try.underlying3 ginfoStr rfl (by decide) (by omega) (.slice none 0 0) [] ByteArray.empty n (fun _ => True) rfl rfl rfl (fun _ _ => trivial) (Kd.R_nil _ _ _ _ _) (by omega) HB.out (Nat.le_refl _) (by simp; omega) ?_; intro v2 w2 ho hb hg hat; have HO2 := Aside0.mk ho; have HB2 := Aside0.mk hb; clear ho hb hg hat; obtain ⟨A2, c2, e2⟩ := Kd.R_slice HO2.out; subst e2)))
  go_ret
  exact ⟨_, rfl, by simpa using Kd.R_take (m := 0) HO2.out (Nat.zero_le _), HB2.out⟩
 ·have f1 : decide (0 < n) = false := by simp; omega
  go_enter Try.func42, Try.ntmps42
  go_wp2
  go_ret
  exact ⟨_, rfl, Kd.R_nil _ _ _ _ _, HB.out⟩
def slices_Concat_string_string.f (l0 : List (List ByteArray)) : Option (List ByteArray) := if l0.flatten.length ≤ 4398046511104 then some l0.flatten else none
def flk (l : List (List ByteArray)) (k : Nat) : List ByteArray := (l.take k).flatten
theorem flk_zero (l : List (List ByteArray)) : flk l 0 = [] := by simp [flk]
theorem flk_succ (l : List (List ByteArray)) (i : Nat) (h : i < l.length) : flk l (i + 1) = flk l i ++ l[i] := by
 unfold flk; rw [List.take_succ_eq_append_getElem h, List.flatten_append]; simp
theorem flk_all (l : List (List ByteArray)) (k : Nat) (h : ¬ k < l.length) : flk l k = l.flatten := by
 unfold flk; rw [List.take_of_length_le (by omega)]
theorem flk_le (l : List (List ByteArray)) (i : Nat) : (flk l i).length ≤ l.flatten.length := by
 have h := List.take_append_drop i l
 have h2 : l.flatten.length = (l.take i).flatten.length + (l.drop i).flatten.length := by rw [← List.length_append, ← List.flatten_append, h]
 unfold flk; omega
set_option maxHeartbeats 1000000 in
theorem slices_Concat_string_string.calls (A0 : Option Addr) (c0 : Nat) (l0 : List (List ByteArray)) (r : List ByteArray) (w : World) (hr0 : Kd.C (Kd.slice 9 Kd.string) w A0 l0.length l0) (hc0 : l0.length ≤ c0) (h : slices_Concat_string_string.f l0 = some r) :
  Calls Try.prog 34 #[.slice A0 l0.length c0] w fun e w' => ∃ v0_ : Value, e = .returned (v0_) ∧ Kd.R Kd.string 9 w' w.heap.size (fun _ => True) v0_ r ∧ Below w.heap.size w w' := by
 unfold slices_Concat_string_string.f at h
 by_cases hl : l0.flatten.length ≤ 4398046511104
 ·rw [if_pos hl] at h
  obtain rfl := Option.some.inj h
  have HR := Aside0.mk hr0
  have HC := Aside0.mk hc0
  have HL := Aside0.mk hl
  have hm : l0.length ≤ 9223372036854775807 := hr0.2.1
  clear h hr0 hc0 hl
  have HB := Aside0.mk (Below.refl w.heap.size w)
  go_enter Try.func34, Try.ntmps34
  go_wp2
  go_loopw [3, 11] (fun sz i w' => ∃ k : Nat, k ≤ l0.length ∧ i = .int .i64 k ∧ sz = .int .i64 ((flk l0 k).length) ∧ Drawn0 w w') (fun _ i _ => l0.length - (intOf i).toNat)
  case atStart => exact ⟨0, Nat.zero_le _, rfl, by simp [flk_zero], Drawn0.refl _⟩
  case round =>
   obtain ⟨k, hk, rfl, rfl, ⟨nd, rfl⟩⟩ := hrel
   by_cases hlt : k < l0.length
   ·have hle := flk_le l0 (k + 1)
    have HF := Aside0.mk (flk_succ l0 k hlt)
    obtain ⟨ad, A1, c1, e1, hx', hc1, hC1⟩ := at_strs (Kd.C_drewN HR.out nd) k hlt
    cases e1
    clear hC1 hc1
    have f1 : decide ((k : Int) < (l0.length : Int)) = true := by simp; omega
    have g0 : (flk l0 (k + 1)).length = (flk l0 k).length + (l0[k]).length := by rw [HF.out, List.length_append]
    have G0 := Aside0.mk g0
    have g1 : 0 ≤ ((flk l0 k).length : Int) + ((l0[k]).length : Int) := by omega
    have g2 : ((flk l0 k).length : Int) + ((l0[k]).length : Int) ≤ 4398046511104 := by
     have h1 := HL.out
     omega
    have f2 : decide (((flk l0 k).length : Int) + ((l0[k]).length : Int) < 0) = false := by simp; omega
    clear hle g0
    go_wp2
    go_roundw
    case rel => exact ⟨k + 1, by omega, by go_num, by rw [G0.out]; go_num, ⟨⟨nd, rfl⟩⟩⟩
    case measure => simp [intOf]; omega
   ·have f1 : decide ((k : Int) < (l0.length : Int)) = false := by simp; omega
    have HA := Aside0.mk (flk_all l0 k hlt)
    have HN : (flk l0 k).length ≤ 4398046511104 := by rw [HA.out]; exact HL.out
    go_wp2_with (go_at_call 42; (refine (slices_Grow_nil ((flk l0 k).length : Int) _ (by omega) (by omega)).mono ?_; rintro e w1 ⟨v1, rfl, ho, hb⟩; have HO := Aside0.mk ho; have HB1 := Aside0.mk hb; clear ho hb))
    have HBw := Aside0.mk (show Below w.heap.size w w1 from (pw_below_drewN (Below.refl _ _) nd).trans HB1.out)
    have HOw := Aside0.mk (show Kd.R Kd.string 9 w1 w.heap.size (fun _ => True) v1 [] from HO.out)
    clear HB1 HO HA HN hlt hk f1
    go_loopw [6, 27] (fun v i wr => ∃ j : Nat, j ≤ l0.length ∧ i = .int .i64 j ∧ Aside0 (Kd.R Kd.string 9 wr w.heap.size (fun _ => True) v (flk l0 j)) ∧ Aside0 (Below w.heap.size w wr)) (fun _ i _ => l0.length - (intOf i).toNat)
    case atStart => exact ⟨0, Nat.zero_le _, rfl, by rw [flk_zero]; exact HOw, HBw⟩
    case round =>
     clear HOw HBw
     obtain ⟨j, hj, rfl, HO, HBw⟩ := hrel
     by_cases hlt : j < l0.length
     ·have hle := flk_le l0 (j + 1)
      have HF := Aside0.mk (flk_succ l0 j hlt)
      obtain ⟨ad, A1, c1, e1, hx', hc1, hC1⟩ := at_strs (Kd.C_below HR.out HBw.out) j hlt
      cases e1
      have HC1 := Aside0.mk hC1
      clear hC1 hc1
      have f1 : decide ((j : Int) < (l0.length : Int)) = true := by simp; omega
      have g0 : (flk l0 (j + 1)).length = (flk l0 j).length + (l0[j]).length := by rw [HF.out, List.length_append]
      have g2 : (flk l0 j).length + (l0[j]).length ≤ 4398046511104 := by
       have h1 := HL.out
       omega
      clear hle g0
      go_wp2_with ((with_reducible refine gate_builtin (b := .append) (xs := #[.tmp 31, .tmp 32]) rfl ?_); (at_builtin; refine Kd.R_append_rows Kd.string (w0 := w) w.heap.size rfl (.tmp 31) (.tmp 32) 22 9 (.string ⟨#[]⟩) 16 rfl Try.underlying22 ginfoStr rfl (by decide) (by omega) _ (flk l0 j) (l0[j]) _ _ _ (fun _ => True) (fun _ => False) rfl rfl HO.out HC1.out (fun _ _ h => h) (fun _ h => h.elim) (fun _ _ => trivial) HBw.out HBw.out.size (by omega) ?_; intro v2 w2 ho hb hg hat; have HO2 := Aside0.mk ho; have HB2 := Aside0.mk hb; clear ho hb hg hat))
      go_roundw
      case rel => exact ⟨j + 1, by omega, by go_num, by rw [HF.out]; exact HO2, HB2⟩
      case measure => simp [intOf]; omega
     ·have f1 : decide ((j : Int) < (l0.length : Int)) = false := by simp; omega
      have HA := Aside0.mk (flk_all l0 j hlt)
      go_wp2
      go_ret
      exact ⟨_, rfl, by rw [← HA.out]; exact HO.out, HBw.out⟩
 ·rw [if_neg hl] at h; cases h
end Go.Proofs.Ytlabiajcohmjhaa.Pr
-- shrunk
