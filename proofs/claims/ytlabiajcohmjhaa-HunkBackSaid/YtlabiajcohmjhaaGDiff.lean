/-
diff.Diff's contract: it answers what is between two lists of at most 2^42 lines, as plain Lean says (between).
-/
import Derived.IntWalk
import Derived.Lib.SlicesS
import Derived.RegionTactic
import Derived.BigRegion
import Derived.Test.YtlabiajcohmjhaaGSlices
import Derived.Test.YtlabiajcohmjhaaGWalk
import Derived.Test.YtlabiajcohmjhaaGTabPure
namespace Go.Proofs.Ytlabiajcohmjhaa.Pr
open Go.RowKit Go.Proofs.YtlabiajcohmjhaaW.PrintWords Go.Proofs.YtlabiajcohmjhaaW.PrintLast Go.Proofs.YtlabiajcohmjhaaW.PrintMore
set_option linter.unusedVariables false
set_option linter.unusedSimpArgs false
def leadFrom (g : Nat → Bool) : Nat → Nat → Nat
 | i, 0 => i
 | i, n + 1 => if g i = true then leadFrom g (i + 1) n else i
set_option maxHeartbeats 400000 in
theorem diff_common.calls (K : Nat) (p q : Addr) (g : Nat → Bool) (m : Nat) (w : World) (hm : m ≤ 4398046511104)
  (hK : ∀ (args : Array Value) (w' : World), (callFunc K args).run Try.prog w' = .ok (.enter K args) w')
  (hF : ∀ (j : Nat) (w' : World), j < m → Drawn0 w w' → Calls Try.prog K #[.int .i64 j, .pointer (some p), .pointer (some q)] w' fun e w'' => e = .returned (.bool (g j)) ∧ Drawn0 w' w'') :
  Calls Try.prog 37 #[.int .i64 m, .func (.func K) #[] #[.pointer (some p), .pointer (some q)]] w fun e w' => e = .returned (.int .i64 (leadFrom g 0 m)) ∧ Drawn0 w w' := by
 have HF := Aside0.mk hF
 clear hF
 go_enter Try.func37, Try.ntmps37
 go_wp2
 go_loopw [5, 7] (fun x i w' => ∃ k : Nat, k ≤ m ∧ i = .int .i64 k ∧ Aside0 (leadFrom g k (m - k) = leadFrom g 0 m) ∧ Drawn0 w w') (fun _ i _ => m - (intOf i).toNat)
 case atStart => exact ⟨0, Nat.zero_le _, rfl, ⟨rfl⟩, Drawn0.refl _⟩
 case round =>
  obtain ⟨k, hk, rfl, HL, HD⟩ := hrel
  by_cases hlt : k < m
  ·have f1 : decide ((k : Int) < (m : Int)) = true := by simp; omega
   have hL : leadFrom g k (m - k) = if g k = true then leadFrom g (k + 1) (m - (k + 1)) else k := by
    rw [show m - k = (m - (k + 1)) + 1 by omega]; rfl
   rcases hg : g k with _ | _
   ·have HL2 := Aside0.mk (show leadFrom g 0 m = k by rw [← HL.out, hL, hg]; rfl)
    have HC := HF.out k _ hlt HD
    rw [hg] at HC
    have HC2 := Aside0.mk HC
    clear HC hL hg HL HF
    go_wp2_with ((with_reducible refine HC2.out.mono ?_); rintro e w1 ⟨rfl, hd⟩; have HD1 := Aside0.mk hd; clear hd)
    go_ret
    refine ⟨by rw [HL2.out]; rfl, ?_⟩
    obtain ⟨n1, rfl⟩ := HD
    obtain ⟨n2, rfl⟩ := HD1.out
    exact ⟨⟨n1 + n2, World.drewN_drewN ..⟩⟩
   ·have HL2 := Aside0.mk (show leadFrom g (k + 1) (m - (k + 1)) = leadFrom g 0 m by rw [← HL.out, hL, hg]; rfl)
    have HC := HF.out k _ hlt HD
    rw [hg] at HC
    have HC2 := Aside0.mk HC
    clear HC hL hg HL HF
    go_wp2_with ((with_reducible refine HC2.out.mono ?_); rintro e w1 ⟨rfl, hd⟩; have HD1 := Aside0.mk hd; clear hd)
    go_roundw
    case rel =>
     refine ⟨k + 1, by omega, by go_num, HL2, ?_⟩
     obtain ⟨n1, rfl⟩ := HD
     obtain ⟨n2, rfl⟩ := HD1.out
     exact ⟨⟨n1 + n2, World.drewN_drewN ..⟩⟩
    case measure => simp [intOf]; omega
  ·have f1 : decide ((k : Int) < (m : Int)) = false := by simp; omega
   have HL2 := Aside0.mk (show leadFrom g 0 m = m by rw [← HL.out, show m - k = 0 by omega]; show k = m; omega)
   clear HL HF
   go_wp2
   go_ret
   exact ⟨by rw [HL2.out]; rfl, HD⟩
set_option maxHeartbeats 400000 in
theorem diff_Diff1.calls (i : Nat) (p q : Addr) (A0 : Option Addr) (c0 : Nat) (l0 : List ByteArray) (A1 : Option Addr) (c1 : Nat) (l1 : List ByteArray) (w : World)
  (hp : w.cell? p = some (.slice A0 l0.length c0)) (hq : w.cell? q = some (.slice A1 l1.length c1)) (hr0 : Kd.C Kd.string w A0 l0.length l0) (hr1 : Kd.C Kd.string w A1 l1.length l1) (h0 : i < l0.length) (h1 : i < l1.length) :
  Calls Try.prog 38 #[.int .i64 i, .pointer (some p), .pointer (some q)] w fun e w' => e = .returned (.bool ((l0[i]).toList == (l1[i]).toList)) ∧ Drawn0 w w' := by
 obtain ⟨ad0, e0, hx0⟩ := Kd.at_string hr0 (i : Int) (by omega) (by omega)
 obtain ⟨ad1, e1, hx1⟩ := Kd.at_string hr1 (i : Int) (by omega) (by omega)
 cases e0
 cases e1
 have hy0 : w.cell? (ad0.add i) = some (.string l0[i]) := by simpa [rdOf, List.getD_eq_getElem?_getD, List.getElem?_eq_getElem h0] using hx0
 have hy1 : w.cell? (ad1.add i) = some (.string l1[i]) := by simpa [rdOf, List.getD_eq_getElem?_getD, List.getElem?_eq_getElem h1] using hx1
 clear hx0 hx1 hr0 hr1
 have g0 : (0 : Int) ≤ (i : Int) := by omega
 have g1 : (i : Int) < (l0.length : Int) := by omega
 have g2 : (i : Int) < (l1.length : Int) := by omega
 go_enter Try.func38, Try.ntmps38
 go_wp2
 repeat (go_quiet (fail); try go_wp2)
 go_ret
 exact ⟨rfl, by repeat (first | exact Drawn0.refl _ | apply Drawn0.step)⟩
set_option maxHeartbeats 400000 in
theorem diff_Diff2.calls (i : Nat) (p q : Addr) (A0 : Option Addr) (c0 : Nat) (l0 : List ByteArray) (A1 : Option Addr) (c1 : Nat) (l1 : List ByteArray) (w : World)
  (hp : w.cell? p = some (.slice A0 l0.length c0)) (hq : w.cell? q = some (.slice A1 l1.length c1)) (hr0 : Kd.C Kd.string w A0 l0.length l0) (hr1 : Kd.C Kd.string w A1 l1.length l1) (h0 : i < l0.length) (h1 : i < l1.length) :
  Calls Try.prog 39 #[.int .i64 i, .pointer (some p), .pointer (some q)] w fun e w' => e = .returned (.bool ((l0[l0.length - 1 - i]'(by omega)).toList == (l1[l1.length - 1 - i]'(by omega)).toList)) ∧ Drawn0 w w' := by
 have hm0 : l0.length ≤ 9223372036854775807 := hr0.2.1
 have hm1 : l1.length ≤ 9223372036854775807 := hr1.2.1
 obtain ⟨ad0, e0, hx0⟩ := Kd.at_string hr0 ((l0.length : Int) - 1 - (i : Int)) (by omega) (by omega)
 obtain ⟨ad1, e1, hx1⟩ := Kd.at_string hr1 ((l1.length : Int) - 1 - (i : Int)) (by omega) (by omega)
 cases e0
 cases e1
 have z0 : rdOf ByteArray.empty l0 ((l0.length : Int) - 1 - (i : Int)) = l0[l0.length - 1 - i]'(by omega) := by
  rw [rdOf, show ((l0.length : Int) - 1 - (i : Int)).toNat = l0.length - 1 - i by omega, List.getD_eq_getElem?_getD, List.getElem?_eq_getElem (by omega), Option.getD_some]
 have z1 : rdOf ByteArray.empty l1 ((l1.length : Int) - 1 - (i : Int)) = l1[l1.length - 1 - i]'(by omega) := by
  rw [rdOf, show ((l1.length : Int) - 1 - (i : Int)).toNat = l1.length - 1 - i by omega, List.getD_eq_getElem?_getD, List.getElem?_eq_getElem (by omega), Option.getD_some]
 rw [z0] at hx0
 rw [z1] at hx1
 clear hr0 hr1 z0 z1
 generalize (l0[l0.length - 1 - i]'(by omega)) = s0 at *
 generalize (l1[l1.length - 1 - i]'(by omega)) = s1 at *
 have k0 : IntKind.i64.wrap ((l0.length : Int) - 1) = (l0.length : Int) - 1 := IntWalk.i64_in _ (by omega)
 have k1 : IntKind.i64.wrap ((l1.length : Int) - 1) = (l1.length : Int) - 1 := IntWalk.i64_in _ (by omega)
 obtain ⟨x0, hj0⟩ : ∃ j : Int, j = (l0.length : Int) - 1 - (i : Int) := ⟨_, rfl⟩
 obtain ⟨x1, hj1⟩ : ∃ j : Int, j = (l1.length : Int) - 1 - (i : Int) := ⟨_, rfl⟩
 rw [← hj0] at hx0
 rw [← hj1] at hx1
 have k2 : IntKind.i64.wrap ((l0.length : Int) - 1 - (i : Int)) = x0 := by rw [hj0]; exact IntWalk.i64_in _ (by omega)
 have k3 : IntKind.i64.wrap ((l1.length : Int) - 1 - (i : Int)) = x1 := by rw [hj1]; exact IntWalk.i64_in _ (by omega)
 have g2 : (0 : Int) ≤ x0 := by omega
 have g3 : (0 : Int) ≤ x1 := by omega
 have g4 : x0 < (l0.length : Int) := by omega
 have g5 : x1 < (l1.length : Int) := by omega
 clear hj0 hj1
 clear hm0 hm1 h0 h1
 go_enter Try.func39, Try.ntmps39
 go_wp2
 repeat (go_quiet (fail); try go_wp2)
 go_ret
 exact ⟨rfl, by repeat (first | exact Drawn0.refl _ | apply Drawn0.step)⟩
theorem leadFrom_shift (g : Nat → Bool) : ∀ n i, leadFrom g (i + 1) n = leadFrom (fun j => g (j + 1)) i n + 1
 | 0, i => rfl
 | n + 1, i => by
  rw [leadFrom, leadFrom, leadFrom_shift g n (i + 1)]
  split <;> rfl
def same (a b : List ByteArray) (j : Nat) : Bool := (a.getD j ByteArray.empty).toList == (b.getD j ByteArray.empty).toList
theorem lead_common : ∀ a b : List ByteArray, leadFrom (same a b) 0 (min a.length b.length) = common a b
 | [], b => by simp [leadFrom, common]
 | a :: l, [] => by simp [leadFrom, common]
 | a :: l, b :: m => by
  have hm : min (a :: l).length (b :: m).length = min l.length m.length + 1 := by simp only [List.length_cons]; omega
  rw [hm, leadFrom, common]
  by_cases h : a = b
  ·have h1 : same (a :: l) (b :: m) 0 = true := (Lib.bytes_beq_iff _ _).2 h
   rw [if_pos h1, if_pos h, leadFrom_shift]
   have h2 : (fun j => same (a :: l) (b :: m) (j + 1)) = same l m := rfl
   rw [h2, lead_common l m]
  ·have h1 : same (a :: l) (b :: m) 0 = false := (Lib.bytes_beq_false_iff _ _).2 h
   rw [if_neg (by rw [h1]; simp), if_neg h]
theorem same_at (a b : List ByteArray) (j : Nat) (h0 : j < a.length) (h1 : j < b.length) : ((a[j]).toList == (b[j]).toList) = same a b j := by
 simp [same, List.getD_eq_getElem?_getD, List.getElem?_eq_getElem h0, List.getElem?_eq_getElem h1]
theorem same_rev (a b : List ByteArray) (j : Nat) (h0 : j < a.length) (h1 : j < b.length) : ((a[a.length - 1 - j]'(by omega)).toList == (b[b.length - 1 - j]'(by omega)).toList) = same a.reverse b.reverse j := by
 rw [← same_at a.reverse b.reverse j (by simpa using h0) (by simpa using h1), List.getElem_reverse, List.getElem_reverse]
theorem common_le : ∀ a b : List ByteArray, common a b ≤ a.length ∧ common a b ≤ b.length
 | [], b => by simp [common]
 | a :: l, [] => by simp [common]
 | a :: l, b :: m => by
  have := common_le l m
  unfold common
  split
  ·simp only [List.length_cons]; omega
  ·simp
theorem cutFrom (A : Option Addr) (c : Nat) (xs : List ByteArray) (m : Nat) (hm : m ≤ xs.length) (hc : xs.length ≤ c) :
  ∃ A' : Option Addr, (∀ W : World, (Instr.slice 22 (.slice A xs.length c) (some (.int .i64 (m : Int))) none none).run Try.prog W = .ok (.slice A' (xs.drop m).length (c - m)) W) ∧
   (∀ w : World, Kd.C Kd.string w A xs.length xs → Kd.C Kd.string w A' (xs.drop m).length (xs.drop m)) ∧ (xs.drop m).length ≤ c - m := by
 obtain ⟨i0, hi, hz⟩ := Option.map_eq_some_iff.1 ginfoStr
 simp only [Prod.mk.injEq] at hz
 refine ⟨_, fun W => ?_, fun w h => Kd.C_drop (c := c) h hm hc, by rw [List.length_drop]; omega⟩
 have h := cut_from (P := Try.prog) 22 9 .i64 Try.underlying22 hi 1 hz.2.1 A xs.length c (m : Int) (Int.natCast_nonneg _) (by omega) W
 rw [Int.toNat_natCast] at h
 rw [h, List.length_drop]
 rfl
theorem cutTo (A : Option Addr) (c : Nat) (xs : List ByteArray) (m : Nat) (hm : m ≤ xs.length) (hc : xs.length ≤ c) :
  (∀ W : World, (Instr.slice 22 (.slice A xs.length c) none (some (.int .i64 (m : Int))) none).run Try.prog W = .ok (.slice A (xs.take m).length c) W) ∧
   (∀ w : World, Kd.C Kd.string w A xs.length xs → Kd.C Kd.string w A (xs.take m).length (xs.take m)) ∧ (xs.take m).length ≤ c := by
 obtain ⟨i0, hi, hz⟩ := Option.map_eq_some_iff.1 ginfoStr
 refine ⟨fun W => ?_, fun w h => Kd.C_take h hm, by rw [List.length_take]; omega⟩
 have h := cut_to (P := Try.prog) 22 9 .i64 Try.underlying22 hi A xs.length c (m : Int) (Int.natCast_nonneg _) (by omega) hc W
 rw [Int.toNat_natCast] at h
 rw [h, List.length_take, Nat.min_eq_left hm]
theorem own_single {W : World} {base : Nat} {ok' : Nat → Prop} {vi : Value} {a b : Int} {y : List ByteArray} (hR : Kd.R Kd.string 9 W base ok' vi y) (hb : base ≤ W.heap.size) :
  Kd.S k51 51 (W.alloc (.cells #[.int .i64 a, .int .i64 b, vi] 51)) base (fun _ => True) (.slice (some ⟨W.heap.size, 0, none⟩) 1 1) [⟨a, b, y⟩] := by
 refine ⟨fun _ => 0, fun _ _ => trivial, [.int .i64 a, .int .i64 b, vi], ?_, ?_⟩
 ·have h := World.ownsRow_lit (base := base) (e := 51) (size := 3) W #[.int .i64 a, .int .i64 b, vi] 1 hb (by simp [maxLen]) (by simp)
  exact h
 ·have h2 := Kd.R_alloc (Kd.R_bound hR) (.cells #[.int .i64 a, .int .i64 b, vi] 51)
  refine Reps.c3 ?_ (Reps.none _ _)
  refine k51_mkM _ base _ ⟨a, b, y⟩ (Kd.R_mono h2 (fun k hk => ⟨⟨trivial, fun h => ?_⟩, rfl⟩))
  have h3 : k = W.heap.size := by simpa [Value.ownBlock] using h
  have := hk.2.2.1
  omega
def diff_Diff.T8 : Bool × List (List Nat × List Nat) := (true, [([], []), ([], []), ([1], [1]), ([], []), ([3], [3]), ([0, 2, 4], [0, 2, 4]), ([5], [5]), ([6, 4, 0, 1, 2, 3, 4, 5, 6], [6])])
def diff_Diff.B8 : List Nat := [0, 0, 2, 0, 8, 31, 63, 127]
theorem diff_Diff.tab8 : rtab .any (opsOf Try.f23 8) = diff_Diff.T8 := by kernel_rfl
theorem diff_Diff.bits8 : waitsOk diff_Diff.T8.2 diff_Diff.B8 = true := by kernel_rfl
def diff_Diff.f (l0 l1 : List ByteArray) : Option (List Ed) := if l0.length ≤ 4398046511104 ∧ l1.length ≤ 4398046511104 then some (between l0 l1) else none
structure SBox (base : Nat) (W : World) (p : Nat) (A : Option Addr) (c : Nat) (x : List ByteArray) : Prop where
 blk : W.heap[p]? = some (.cells #[.slice A x.length c] 22 (0, 0))
 ge : base ≤ p
 cap : x.length ≤ c
 reads : Kd.C Kd.string W A x.length x
theorem SBox.cell {base : Nat} {W : World} {p : Nat} {A : Option Addr} {c : Nat} {x : List ByteArray} (h : SBox base W p A c x) : W.cell? ⟨p, 0, none⟩ = some (.slice A x.length c) ∧ W.frozen? ⟨p, 0, none⟩ = false := by
 have hb := h.blk
 exact ⟨by simp [World.cell?, hb], by simp [World.frozen?, hb]⟩
theorem SBox.drewN {base : Nat} {W : World} {p : Nat} {A : Option Addr} {c : Nat} {x : List ByteArray} (h : SBox base W p A c x) (n : Nat) : SBox base (W.drewN n) p A c x := ⟨h.blk, h.ge, h.cap, Kd.C_drewN h.reads n⟩
theorem SBox.drew {base : Nat} {W : World} {p : Nat} {A : Option Addr} {c : Nat} {x : List ByteArray} (h : SBox base W p A c x) : SBox base W.drew p A c x := ⟨h.blk, h.ge, h.cap, Kd.C_drew h.reads⟩
theorem SBox.below {base : Nat} {W W1 : World} {p : Nat} {A : Option Addr} {c : Nat} {x : List ByteArray} (h : SBox base W p A c x) (hb : Below W.heap.size W W1) : SBox base W1 p A c x :=
 ⟨(hb.block p (Array.getElem?_eq_some_iff.1 h.blk).1).trans h.blk, h.ge, h.cap, Kd.C_below h.reads hb⟩
theorem two_boxes {w W : World} {A : Option Addr} {c : Nat} {x : List ByteArray} {A' : Option Addr} {c' : Nat} {y : List ByteArray} (hB : Below w.heap.size w W) (hx : Kd.C Kd.string W A x.length x) (hcx : x.length ≤ c) (hy : Kd.C Kd.string W A' y.length y) (hcy : y.length ≤ c') :
  SBox w.heap.size ((W.alloc (.cells #[.slice A x.length c] 22)).alloc (.cells #[.slice A' y.length c'] 22)).drew W.heap.size A c x ∧
  SBox w.heap.size ((W.alloc (.cells #[.slice A x.length c] 22)).alloc (.cells #[.slice A' y.length c'] 22)).drew (W.heap.size + 1) A' c' y ∧
  Below w.heap.size w ((W.alloc (.cells #[.slice A x.length c] 22)).alloc (.cells #[.slice A' y.length c'] 22)).drew := by
 have hb : Below W.heap.size W ((W.alloc (.cells #[.slice A x.length c] 22)).alloc (.cells #[.slice A' y.length c'] 22)).drew := below_drew (below_alloc (below_alloc (Below.refl _ _) _) _)
 have h1 := heap_alloc_new (W.alloc (.cells #[.slice A x.length c] 22)) (.cells #[.slice A' y.length c'] 22)
 have h0 : (W.alloc (.cells #[.slice A x.length c] 22)).heap.size = W.heap.size + 1 := by simp
 rw [h0] at h1
 exact ⟨⟨blk_alloc (heap_alloc_new W _) _, hB.size, hcx, Kd.C_below hx hb⟩, ⟨h1, by have := hB.size; omega, hcy, Kd.C_below hy hb⟩, below_drew (below_alloc (below_alloc hB _) _)⟩
theorem small_l {a b : Nat} (h : ¬ (a = 0 ∨ b = 0 ∨ 65536 < a * b)) : a ≤ 65536 := by
 have h1 : 0 < b := by omega
 have h2 : a * b ≤ 65536 := by omega
 exact Nat.le_trans (Nat.le_mul_of_pos_right a h1) h2
theorem small_r {a b : Nat} (h : ¬ (a = 0 ∨ b = 0 ∨ 65536 < a * b)) : b ≤ 65536 := by
 have h1 : 0 < a := by omega
 have h2 : a * b ≤ 65536 := by omega
 exact Nat.le_trans (Nat.le_mul_of_pos_left b h1) h2
theorem quot_lt (a b : Nat) (hb : 0 < b) : decide ((65536 : Int) / (b : Int) < (a : Int)) = decide (65536 < a * b) := by
 congr 1
 apply propext
 rw [Int.ediv_lt_iff_lt_mul (by omega)]
 omega
theorem SBox.set2 {w W : World} {p q : Nat} {A : Option Addr} {c : Nat} {x : List ByteArray} {A' : Option Addr} {c' : Nat} {y : List ByteArray} (hp : SBox w.heap.size W p A c x) (hq : SBox w.heap.size W q A' c' y) (hpq : p ≠ q) (hB : Below w.heap.size w W)
  {B : Option Addr} {d : Nat} {x' : List ByteArray} {B' : Option Addr} {d' : Nat} {y' : List ByteArray} (hx : Kd.C Kd.string w B x'.length x') (hd : x'.length ≤ d) (hy : Kd.C Kd.string w B' y'.length y') (hd' : y'.length ≤ d') :
  SBox w.heap.size ((W.setCell ⟨p, 0, none⟩ (.slice B x'.length d)).setCell ⟨q, 0, none⟩ (.slice B' y'.length d')).drew p B d x' ∧
  SBox w.heap.size ((W.setCell ⟨p, 0, none⟩ (.slice B x'.length d)).setCell ⟨q, 0, none⟩ (.slice B' y'.length d')).drew q B' d' y' ∧
  Below w.heap.size w ((W.setCell ⟨p, 0, none⟩ (.slice B x'.length d)).setCell ⟨q, 0, none⟩ (.slice B' y'.length d')).drew := by
 have hb1 := below_set (j := 0) (v := .slice B x'.length d) hB hp.ge
 have hb2 := below_drew (below_set (j := 0) (v := .slice B' y'.length d') hb1 hq.ge)
 have e1 := blk_set hp.blk 0 (.slice B x'.length d)
 have e2 := blk_far hq.blk (p := ⟨p, 0, none⟩) (fun h => hpq h.symm) (.slice B x'.length d)
 have e3 := blk_set e2 0 (.slice B' y'.length d')
 have e4 := blk_far e1 (p := ⟨q, 0, none⟩) hpq (.slice B' y'.length d')
 exact ⟨⟨(by simpa using e4 : ((W.setCell ⟨p, 0, none⟩ (.slice B x'.length d)).setCell ⟨q, 0, none⟩ (.slice B' y'.length d')).heap[p]? = some (.cells #[.slice B x'.length d] 22 (0, 0))), hp.ge, hd, Kd.C_below hx hb2⟩, ⟨(by simpa using e3 : ((W.setCell ⟨p, 0, none⟩ (.slice B x'.length d)).setCell ⟨q, 0, none⟩ (.slice B' y'.length d')).heap[q]? = some (.cells #[.slice B' y'.length d'] 22 (0, 0))), hq.ge, hd', Kd.C_below hy hb2⟩, hb2⟩
set_option maxRecDepth 100000 in
set_option maxHeartbeats 4000000 in
theorem diff_Diff.calls (A0 : Option Addr) (c0 : Nat) (l0 : List ByteArray) (A1 : Option Addr) (c1 : Nat) (l1 : List ByteArray) (r : List Ed) (w : World) (hr0 : Kd.C Kd.string w A0 l0.length l0) (hc0 : l0.length ≤ c0) (hr1 : Kd.C Kd.string w A1 l1.length l1) (hc1 : l1.length ≤ c1) (h : diff_Diff.f l0 l1 = some r) :
  Calls Try.prog 23 #[.slice A0 l0.length c0, .slice A1 l1.length c1] w fun e w' => ∃ v0_ : Value, e = .returned (v0_) ∧ Kd.S k51 51 w' w.heap.size (fun _ => True) v0_ r ∧ Below w.heap.size w w' := by
 unfold diff_Diff.f at h
 by_cases hl : l0.length ≤ 4398046511104 ∧ l1.length ≤ 4398046511104
 ·rw [if_pos hl] at h
  obtain rfl := Option.some.inj h
  obtain ⟨hl0, hl1⟩ := hl
  have HR0 := Aside0.mk hr0
  have HC0 := Aside0.mk hc0
  have HR1 := Aside0.mk hr1
  have HC1 := Aside0.mk hc1
  clear h hr0 hc0 hr1 hc1
  have hmf : ∀ (fn : Fn) (first cap : Array Value) (W : World), (Instr.makeFunc fn first cap).run Try.prog W = .ok (.func fn first cap) W := fun _ _ _ _ => rfl
  have hK1 : ∀ (args : Array Value) (w' : World), (callFunc 38 args).run Try.prog w' = .ok (.enter 38 args) w' := fun _ _ => by kernel_rfl
  have HK1 := Aside0.mk hK1
  have hK2 : ∀ (args : Array Value) (w' : World), (callFunc 39 args).run Try.prog w' = .ok (.enter 39 args) w' := fun _ _ => by kernel_rfl
  have HK2 := Aside0.mk hK2
  clear hK1 hK2
  go_enter Try.func23, Try.ntmps23
  go_upto_region 1 with (fail)
  go_cut [5] (fun v5 wc => v5 = .int .i64 (frontOf l0 l1) ∧ Aside0 (SBox w.heap.size wc w.heap.size A0 c0 l0) ∧ Aside0 (SBox w.heap.size wc (w.heap.size + 1) A1 c1 l1) ∧ Aside0 (Below w.heap.size w wc))
  case first =>
   have hB : Below w.heap.size w ((w.alloc (.cells #[.slice A0 l0.length c0] 22)).alloc (.cells #[.slice A1 l1.length c1] 22)) := below_alloc (below_alloc (Below.refl _ _) _) _
   have hb0 : SBox w.heap.size ((w.alloc (.cells #[.slice A0 l0.length c0] 22)).alloc (.cells #[.slice A1 l1.length c1] 22)) w.heap.size A0 c0 l0 := ⟨blk_alloc (heap_alloc_new w _) _, Nat.le_refl _, HC0.out, Kd.C_below HR0.out hB⟩
   have hb1 : SBox w.heap.size ((w.alloc (.cells #[.slice A0 l0.length c0] 22)).alloc (.cells #[.slice A1 l1.length c1] 22)) (w.heap.size + 1) A1 c1 l1 := ⟨by have h := heap_alloc_new (w.alloc (.cells #[.slice A0 l0.length c0] 22)) (.cells #[.slice A1 l1.length c1] 22); simpa using h, by omega, HC1.out, Kd.C_below HR1.out hB⟩
   have HB := Aside0.mk hB
   have HB0 := Aside0.mk hb0
   have HB1 := Aside0.mk hb1
   clear hB hb0 hb1
   have HF : ∀ m, m ≤ l0.length → m ≤ l1.length → ∀ (j : Nat) (w' : World), j < m → Drawn0 ((w.alloc (.cells #[.slice A0 l0.length c0] 22)).alloc (.cells #[.slice A1 l1.length c1] 22)) w' → Calls Try.prog 38 #[.int .i64 j, .pointer (some ⟨w.heap.size, 0, none⟩), .pointer (some ⟨w.heap.size + 1, 0, none⟩)] w' fun e w'' => e = .returned (.bool (same l0 l1 j)) ∧ Drawn0 w' w'' := by
    rintro m hm0 hm1 j w' hj ⟨n, rfl⟩
    have h := diff_Diff1.calls j ⟨w.heap.size, 0, none⟩ ⟨w.heap.size + 1, 0, none⟩ A0 c0 l0 A1 c1 l1 _ (HB0.out.drewN n).cell.1 (HB1.out.drewN n).cell.1 (HB0.out.drewN n).reads (HB1.out.drewN n).reads (by omega) (by omega)
    rw [same_at] at h
    exact h
   have HF2 := Aside0.mk HF
   clear HF
   have HLC := Aside0.mk (lead_common l0 l1)
   have k1 := HK1.out
   go_wp2_with (fail)
   ·have hlt : l1.length < l0.length := by assumption
    have HLE := Aside0.mk (show leadFrom (same l0 l1) 0 l1.length = frontOf l0 l1 by have h := HLC.out; rw [Nat.min_eq_right (by omega)] at h; exact h)
    refine (diff_common.calls 38 ⟨w.heap.size, 0, none⟩ ⟨w.heap.size + 1, 0, none⟩ (same l0 l1) l1.length _ (by omega) k1 (HF2.out _ (by omega) (by omega))).mono ?_
    rintro e w1 ⟨rfl, ⟨n, rfl⟩⟩
    clear k1
    go_wp2
    go_meet
    exact ⟨by rw [HLE.out], ⟨HB0.out.drewN n⟩, ⟨HB1.out.drewN n⟩, ⟨pw_below_drewN HB.out n⟩⟩
   ·have hlt : ¬ l1.length < l0.length := by assumption
    have HLE := Aside0.mk (show leadFrom (same l0 l1) 0 l0.length = frontOf l0 l1 by have h := HLC.out; rw [Nat.min_eq_left (by omega)] at h; exact h)
    refine (diff_common.calls 38 ⟨w.heap.size, 0, none⟩ ⟨w.heap.size + 1, 0, none⟩ (same l0 l1) l0.length _ (by omega) k1 (HF2.out _ (by omega) (by omega))).mono ?_
    rintro e w1 ⟨rfl, ⟨n, rfl⟩⟩
    clear k1
    go_wp2
    go_meet
    exact ⟨by rw [HLE.out], ⟨HB0.out.drewN n⟩, ⟨HB1.out.drewN n⟩, ⟨pw_below_drewN HB.out n⟩⟩
  case rest =>
   obtain ⟨rfl, HB0, HB1, HB⟩ := hcut
   have HLE := Aside0.mk (common_le l0 l1)
   have hf0 : frontOf l0 l1 ≤ l0.length := HLE.out.1
   have hf1 : frontOf l0 l1 ≤ l1.length := HLE.out.2
   obtain ⟨Ax, hsx, hCx, hcx⟩ := cutFrom A0 c0 l0 (frontOf l0 l1) hf0 HC0.out
   obtain ⟨Ay, hsy, hCy, hcy⟩ := cutFrom A1 c1 l1 (frontOf l0 l1) hf1 HC1.out
   have HX := Aside0.mk (And.intro (hCx wc HB0.out.reads) hcx)
   have HY := Aside0.mk (And.intro (hCy wc HB1.out.reads) hcy)
   have HXw := Aside0.mk (hCx w HR0.out)
   have HYw := Aside0.mk (hCy w HR1.out)
   clear hCx hCy hcx hcy
   generalize hx : l0.drop (frontOf l0 l1) = x at *
   generalize hy : l1.drop (frontOf l0 l1) = y at *
   have HXE := Aside0.mk hx
   have HYE := Aside0.mk hy
   clear hx hy
   have q0 := HB0.out.cell.1
   have q1 := HB1.out.cell.1
   go_upto_region 2 with (fail)
   go_cut [6, 7] (fun v6 v7 wd => ∃ p q : Nat, p ≠ q ∧ v6 = .pointer (some ⟨p, 0, none⟩) ∧ v7 = .pointer (some ⟨q, 0, none⟩) ∧ Aside0 (SBox w.heap.size wd p Ax (c0 - frontOf l0 l1) x) ∧ Aside0 (SBox w.heap.size wd q Ay (c1 - frontOf l0 l1) y) ∧ Aside0 (Below w.heap.size w wd))
   case first =>
    have m0 : ∀ o, (wc.alloc o).cell? ⟨w.heap.size, 0, none⟩ = some (.slice A0 l0.length c0) := fun o => pw_cell_below (below_alloc (Below.refl _ _) o) q0
    have m1 : ∀ o, (wc.alloc o).cell? ⟨w.heap.size + 1, 0, none⟩ = some (.slice A1 l1.length c1) := fun o => pw_cell_below (below_alloc (Below.refl _ _) o) q1
    have m2 : ∀ o o', ((wc.alloc o).alloc o').cell? ⟨w.heap.size, 0, none⟩ = some (.slice A0 l0.length c0) := fun o o' => pw_cell_below (below_alloc (below_alloc (Below.refl _ _) o) o') q0
    have m3 : ∀ o o', ((wc.alloc o).alloc o').cell? ⟨w.heap.size + 1, 0, none⟩ = some (.slice A1 l1.length c1) := fun o o' => pw_cell_below (below_alloc (below_alloc (Below.refl _ _) o) o') q1
    go_region
    all_goals (go_wp2_with (fail); go_meet)
    ·obtain ⟨b1, b2, b3⟩ := two_boxes HB.out HX.out.1 HX.out.2 HY.out.1 HY.out.2
     exact ⟨wc.heap.size, wc.heap.size + 1, by omega, rfl, rfl, ⟨b1⟩, ⟨b2⟩, ⟨b3⟩⟩
    ·obtain ⟨b1, b2, b3⟩ := two_boxes HB.out HY.out.1 HY.out.2 HX.out.1 HX.out.2
     exact ⟨wc.heap.size + 1, wc.heap.size, by omega, rfl, rfl, ⟨b2⟩, ⟨b1⟩, ⟨b3⟩⟩
   case rest =>
    clear hsx hsy HX HY q0 q1 HB0 HB1 HB
    obtain ⟨p, q, hpq, rfl, rfl, HB0, HB1, HB⟩ := hcut
    have hx0 : x.length ≤ 4398046511104 := by rw [← HXE.out, List.length_drop]; omega
    have hy0 : y.length ≤ 4398046511104 := by rw [← HYE.out, List.length_drop]; omega
    go_upto_region 3 with (fail)
    go_cut [8] (fun v8 we => v8 = .int .i64 (endOf l0 l1) ∧ Aside0 (SBox w.heap.size we p Ax (c0 - frontOf l0 l1) x) ∧ Aside0 (SBox w.heap.size we q Ay (c1 - frontOf l0 l1) y) ∧ Aside0 (Below w.heap.size w we))
    case first =>
     have q0 := HB0.out.cell.1
     have q1 := HB1.out.cell.1
     have HF : ∀ m, m ≤ x.length → m ≤ y.length → ∀ (j : Nat) (w' : World), j < m → Drawn0 wc w' → Calls Try.prog 39 #[.int .i64 j, .pointer (some ⟨p, 0, none⟩), .pointer (some ⟨q, 0, none⟩)] w' fun e w'' => e = .returned (.bool (same x.reverse y.reverse j)) ∧ Drawn0 w' w'' := by
      rintro m hm0 hm1 j w' hj ⟨n, rfl⟩
      have h := diff_Diff2.calls j ⟨p, 0, none⟩ ⟨q, 0, none⟩ Ax (c0 - frontOf l0 l1) x Ay (c1 - frontOf l0 l1) y _ (HB0.out.drewN n).cell.1 (HB1.out.drewN n).cell.1 (HB0.out.drewN n).reads (HB1.out.drewN n).reads (by omega) (by omega)
      rw [same_rev x y j (by omega) (by omega)] at h
      exact h
     have HF2 := Aside0.mk HF
     clear HF
     have HLC := Aside0.mk (lead_common x.reverse y.reverse)
     have HEE := Aside0.mk (show endOf l0 l1 = common x.reverse y.reverse by rw [endOf, HXE.out, HYE.out])
     have k1 := HK2.out
     go_wp2_with (fail)
     ·have hlt : y.length < x.length := by assumption
      have HLE := Aside0.mk (show leadFrom (same x.reverse y.reverse) 0 y.length = endOf l0 l1 by have h := HLC.out; rw [List.length_reverse, List.length_reverse, Nat.min_eq_right (by omega)] at h; rw [HEE.out]; exact h)
      refine (diff_common.calls 39 ⟨p, 0, none⟩ ⟨q, 0, none⟩ (same x.reverse y.reverse) y.length _ (by omega) k1 (HF2.out _ (by omega) (by omega))).mono ?_
      rintro e w1 ⟨rfl, ⟨n, rfl⟩⟩
      clear k1
      go_wp2
      go_meet
      exact ⟨by rw [HLE.out], ⟨HB0.out.drewN n⟩, ⟨HB1.out.drewN n⟩, ⟨pw_below_drewN HB.out n⟩⟩
     ·have hlt : ¬ y.length < x.length := by assumption
      have HLE := Aside0.mk (show leadFrom (same x.reverse y.reverse) 0 x.length = endOf l0 l1 by have h := HLC.out; rw [List.length_reverse, List.length_reverse, Nat.min_eq_left (by omega)] at h; rw [HEE.out]; exact h)
      refine (diff_common.calls 39 ⟨p, 0, none⟩ ⟨q, 0, none⟩ (same x.reverse y.reverse) x.length _ (by omega) k1 (HF2.out _ (by omega) (by omega))).mono ?_
      rintro e w1 ⟨rfl, ⟨n, rfl⟩⟩
      clear k1
      go_wp2
      go_meet
      exact ⟨by rw [HLE.out], ⟨HB0.out.drewN n⟩, ⟨HB1.out.drewN n⟩, ⟨pw_below_drewN HB.out n⟩⟩
    case rest =>
     clear HB0 HB1 HB
     obtain ⟨rfl, HB0, HB1, HB⟩ := hcut
     have hEE : endOf l0 l1 = common x.reverse y.reverse := by rw [endOf, HXE.out, HYE.out]
     have hCL := common_le x.reverse y.reverse
     rw [List.length_reverse, List.length_reverse, ← hEE] at hCL
     have hex : endOf l0 l1 ≤ x.length := hCL.1
     have hey : endOf l0 l1 ≤ y.length := hCL.2
     clear hCL hEE
     obtain ⟨mx, hmx⟩ : ∃ m : Nat, m = x.length - endOf l0 l1 := ⟨_, rfl⟩
     obtain ⟨my, hmy⟩ : ∃ m : Nat, m = y.length - endOf l0 l1 := ⟨_, rfl⟩
     have kx : IntKind.i64.wrap ((x.length : Int) - (endOf l0 l1 : Int)) = (mx : Int) := by rw [IntWalk.i64_in _ (by omega)]; omega
     have ky : IntKind.i64.wrap ((y.length : Int) - (endOf l0 l1 : Int)) = (my : Int) := by rw [IntWalk.i64_in _ (by omega)]; omega
     obtain ⟨hsx, hCx, hcx⟩ := cutTo Ax (c0 - frontOf l0 l1) x mx (by omega) HB0.out.cap
     obtain ⟨hsy, hCy, hcy⟩ := cutTo Ay (c1 - frontOf l0 l1) y my (by omega) HB1.out.cap
     have HXw2 := Aside0.mk (hCx w HXw.out)
     have HYw2 := Aside0.mk (hCy w HYw.out)
     have HCX := Aside0.mk hcx
     have HCY := Aside0.mk hcy
     have HXM := Aside0.mk hmx
     have HYM := Aside0.mk hmy
     clear hCx hCy hcx hcy hmx hmy HXw HYw hex hey
     generalize hx' : x.take mx = x' at *
     generalize hy' : y.take my = y' at *
     have HXE2 := Aside0.mk hx'
     have HYE2 := Aside0.mk hy'
     clear hx' hy'
     go_upto_region 4 with (fail)
     go_cut [8] (fun v8 wd => v8 = .int .i64 (endOf l0 l1) ∧ Aside0 (SBox w.heap.size wd p Ax (c0 - frontOf l0 l1) x') ∧ Aside0 (SBox w.heap.size wd q Ay (c1 - frontOf l0 l1) y') ∧ Aside0 (Below w.heap.size w wd))
     case first =>
      have q0 := HB0.out.cell.1
      have q1 := HB1.out.cell.1
      have q2 := HB0.out.cell.2
      have q3 := HB1.out.cell.2
      have q4 : ∀ u, (wc.setCell ⟨p, 0, none⟩ u).cell? ⟨q, 0, none⟩ = some (.slice Ay y.length (c1 - frontOf l0 l1)) := fun u => (World.cell?_of_block (Below.heap_setCell wc ⟨p, 0, none⟩ u _ (fun h => hpq h.symm))).trans q1
      have q5 : ∀ u, (wc.setCell ⟨p, 0, none⟩ u).frozen? ⟨q, 0, none⟩ = false := fun u => (World.frozen?_of_block (Below.heap_setCell wc ⟨p, 0, none⟩ u _ (fun h => hpq h.symm))).trans q3
      go_region
      all_goals (go_wp2_with (fail); go_meet)
      obtain ⟨b0, b1, b2⟩ := HB0.out.set2 HB1.out hpq HB.out HXw2.out HCX.out HYw2.out HCY.out
      exact ⟨rfl, ⟨b0⟩, ⟨b1⟩, ⟨b2⟩⟩
     case rest =>
      clear HB0 HB1 HB hsx hsy kx ky HCX HCY HXw2 HYw2
      obtain ⟨rfl, HB0, HB1, HB⟩ := hcut
      have q0 := HB0.out.cell.1
      have q1 := HB1.out.cell.1
      have HBT := Aside0.mk (show between l0 l1 = midEdits (frontOf l0 l1 : Int) x' y' by
       rw [between, midOf, HXE.out, HYE.out, ← HXM.out, ← HYM.out, HXE2.out, HYE2.out])
      have hxl : x'.length ≤ 4398046511104 := by rw [← HXE2.out, List.length_take]; omega
      have hyl : y'.length ≤ 4398046511104 := by rw [← HYE2.out, List.length_take]; omega
      clear HXE HYE HXE2 HYE2 HXM HYM hx0 hy0
      have hfr : frontOf l0 l1 ≤ 4398046511104 := by omega
      clear hf0 hf1
      generalize frontOf l0 l1 = fr at *
      generalize endOf l0 l1 = en at *
      go_upto_region 5 with (fail)
      go_cut [41] (fun v41 wd => v41 = .bool (decide (x'.length = 0 ∧ y'.length = 0)) ∧ Aside0 (SBox w.heap.size wd p Ax (c0 - fr) x') ∧ Aside0 (SBox w.heap.size wd q Ay (c1 - fr) y') ∧ Aside0 (Below w.heap.size w wd))
      case first =>
       by_cases hx0 : x'.length = 0
       ·have g1 : ((x'.length : Int) == 0) = true := beq_iff_eq.2 (by omega)
        have HX0 := Aside0.mk hx0
        clear hx0
        by_cases hy0 : y'.length = 0
        ·have g2 : ((y'.length : Int) == 0) = true := beq_iff_eq.2 (by omega)
         have HY0 := Aside0.mk hy0
         clear hy0
         go_wp2
         go_meet
         exact ⟨by rw [decide_eq_true (And.intro HX0.out HY0.out)], HB0, HB1, HB⟩
        ·have g2 : ((y'.length : Int) == 0) = false := beq_eq_false_iff_ne.2 (by omega)
         go_wp2
         go_meet
         exact ⟨by rw [decide_eq_false (fun h => hy0 h.2)], HB0, HB1, HB⟩
       ·have g1 : ((x'.length : Int) == 0) = false := beq_eq_false_iff_ne.2 (by omega)
        go_wp2
        go_meet
        exact ⟨by rw [decide_eq_false (fun h => hx0 h.1)], HB0, HB1, HB⟩
      case rest =>
       clear HB0 HB1 HB q0 q1
       obtain ⟨rfl, HB0, HB1, HB⟩ := hcut
       by_cases hxy : x'.length = 0 ∧ y'.length = 0
       ·have HXY := Aside0.mk hxy
        rw [decide_eq_true hxy]
        clear hxy
        go_wp2
        go_ret
        refine ⟨_, rfl, ?_, HB.out⟩
        rw [HBT.out, midEdits, if_pos ⟨List.eq_nil_of_length_eq_zero HXY.out.1, List.eq_nil_of_length_eq_zero HXY.out.2⟩]
        exact Kd.S_nil _ _ _ _ _
       ·have HXY := Aside0.mk hxy
        rw [decide_eq_false hxy]
        clear hxy
        have q0 := HB0.out.cell.1
        have q1 := HB1.out.cell.1
        go_upto_region 7 with (fail)
        go_cut [50] (fun v50 wd => v50 = .bool (decide (x'.length = 0 ∨ y'.length = 0 ∨ 65536 < x'.length * y'.length)) ∧ Aside0 (SBox w.heap.size wd p Ax (c0 - fr) x') ∧ Aside0 (SBox w.heap.size wd q Ay (c1 - fr) y') ∧ Aside0 (Below w.heap.size w wd))
        case first =>
         by_cases hx0 : x'.length = 0
         ·have g1 : ((x'.length : Int) == 0) = true := beq_iff_eq.2 (by omega)
          have HX0 := Aside0.mk hx0
          clear hx0
          go_quiet (fail)
          go_wp2_with (fail)
          go_meet
          exact ⟨by rw [decide_eq_true (Or.inl HX0.out)], ⟨HB0.out.drewN nq⟩, ⟨HB1.out.drewN nq⟩, ⟨pw_below_drewN HB.out nq⟩⟩
         ·have g1 : ((x'.length : Int) == 0) = false := beq_eq_false_iff_ne.2 (by omega)
          by_cases hy0 : y'.length = 0
          ·have g2 : ((y'.length : Int) == 0) = true := beq_iff_eq.2 (by omega)
           have HY0 := Aside0.mk hy0
           clear hy0
           go_quiet (fail)
           go_wp2_with (fail)
           go_meet
           exact ⟨by rw [decide_eq_true (Or.inr (Or.inl HY0.out))], ⟨HB0.out.drewN nq⟩, ⟨HB1.out.drewN nq⟩, ⟨pw_below_drewN HB.out nq⟩⟩
          ·have g2 : ((y'.length : Int) == 0) = false := beq_eq_false_iff_ne.2 (by omega)
           have g3 : (0 : Int) < (y'.length : Int) := by omega
           have g4 : ¬ (y'.length : Int) = 0 := by omega
           have g5 : ¬ (y' = []) := fun h => hy0 (by rw [h]; rfl)
           obtain ⟨b, hb⟩ : ∃ b : Bool, b = decide (65536 < x'.length * y'.length) := ⟨_, rfl⟩
           have g6 : decide ((65536 : Int) / (y'.length : Int) < (x'.length : Int)) = b := by rw [hb]; exact quot_lt _ _ (by omega)
           have HBB := Aside0.mk hb
           clear hb
           go_quiet (fail)
           go_wp2_with (fail)
           go_meet
           exact ⟨by rw [HBB.out]; simp [hx0, hy0], ⟨HB0.out.drewN nq⟩, ⟨HB1.out.drewN nq⟩, ⟨pw_below_drewN HB.out nq⟩⟩
        case rest =>
         clear HB0 HB1 HB q0 q1
         obtain ⟨rfl, HB0, HB1, HB⟩ := hcut
         have q0 := HB0.out.cell.1
         have q1 := HB1.out.cell.1
         by_cases hbig : x'.length = 0 ∨ y'.length = 0 ∨ 65536 < x'.length * y'.length
         ·have HBG := Aside0.mk hbig
          rw [decide_eq_true hbig]
          clear hbig
          have HCl := Aside0.mk (show slices_Clone_string_string.f y' = some y' by rw [slices_Clone_string_string.f, if_pos hyl])
          have HB0d := Aside0.mk HB0.out.drew
          have HB1d := Aside0.mk HB1.out.drew
          have HBd := Aside0.mk (below_drew HB.out)
          go_wp2
          -- REGION8
          refine start_ (n := 8) (S := fun w' => w'.cell? ⟨p, 0, none⟩ = some (.slice Ax x'.length (c0 - fr)) ∧ w'.cell? ⟨q, 0, none⟩ = some (.slice Ay y'.length (c1 - fr))) (ds := []) #[false, false, false, false, false, false, false, false] (by kernel_rfl) rfl rfl ⟨q0, q1⟩ (fun hHeld => ?_)
          refine with_tabW diff_Diff.tab8 diff_Diff.bits8 (fun HT_ HW_ => ?_)
          generalize wc.drew = w3 at HB0d HB1d HBd hHeld ⊢
          refine pure_ (i := 0) (N := some 67) (v := ?_) (a' := ?_) #[true, false, false, false, false, false, false, false] rfl rfl (any_of HT_.out (by kernel_rfl)) (fun _ _ _ h => h) (Or.inl ⟨by rfl, ?_⟩) ?_ ?_
          rotate_left
          ·intro w'
           go_simp
           with_reducible rfl
          rotate_left
          ·simp only [Act.put, List.setIfInBounds_toArray, List.set_cons_zero, List.set_cons_succ, i64_w, i32_w]
           rfl
          refine take_ (i := 1) (N := some 68) (v := ?_) (a' := ?_) #[true, true, false, false, false, false, false, false] rfl rfl (take_ofW HT_.out HW_.out (by kernel_rfl)) (fun _ _ _ h => h) (Or.inl ⟨by rfl, ?_⟩) hHeld ?_ ?_
          rotate_left
          ·rintro w' ⟨s0, s1⟩
           go_simp
           with_reducible rfl
          rotate_left
          ·simp only [Act.put, List.setIfInBounds_toArray, List.set_cons_zero, List.set_cons_succ, i64_w, i32_w]
           rfl
          refine pure_ (i := 2) (N := some 69) (v := ?_) (a' := ?_) #[true, true, true, false, false, false, false, false] rfl rfl (any_of HT_.out (by kernel_rfl)) (fun _ _ _ h => h) (Or.inl ⟨by rfl, ?_⟩) ?_ ?_
          rotate_left
          ·intro w'
           go_simp
           with_reducible rfl
          rotate_left
          ·simp only [Act.put, List.setIfInBounds_toArray, List.set_cons_zero, List.set_cons_succ, i64_w, i32_w]
           rfl
          refine take_ (i := 3) (N := some 70) (v := ?_) (a' := ?_) #[true, true, true, true, false, false, false, false] rfl rfl (take_ofW HT_.out HW_.out (by kernel_rfl)) (fun _ _ _ h => h) (Or.inl ⟨by rfl, ?_⟩) hHeld ?_ ?_
          rotate_left
          ·rintro w' ⟨s0, s1⟩
           go_simp
           with_reducible rfl
          rotate_left
          ·simp only [Act.put, List.setIfInBounds_toArray, List.set_cons_zero, List.set_cons_succ, i64_w, i32_w]
           rfl
          refine one_ (i := 4) (N := some 71) #[true, true, true, true, true, false, false, false] rfl rfl (one_of HT_.out (by kernel_rfl)) (by decide) (fun K hK => ?_)
          refine goes_ Try.func40 (by kernel_rfl) rfl #[.slice Ay y'.length (c1 - fr)] (by rfl) rfl rfl (by simp only [List.map_toArray, List.map_cons, List.map_nil]; rfl) ?_
          with_reducible refine (slices_Clone_string_string.calls Ay (c1 - fr) y' y' _ HB1d.out.reads HB1d.out.cap HCl.out).mono ?_
          rintro e w5 ⟨v5, rfl, ho, hb⟩
          refine ⟨_, rfl, ?_⟩
          have HO := Aside0.mk ho
          have HB5 := Aside0.mk (HBd.out.trans (Below.mono hb HBd.out.size))
          have s0 := (HB0d.out.below hb).cell.1
          have s1 := (HB1d.out.below hb).cell.1
          clear ho hb
          obtain ⟨Ac, cc, ec⟩ := Kd.R_slice HO.out
          subst ec
          refine hK.out _ _ ⟨s0, s1⟩ (fun hHeld => ?_)
          clear hK K
          refine norm_ (a' := ?_) ?_ ?_
          rotate_left
          ·show Act.put _ (some 71) _ = _
           simp only [Act.put, List.setIfInBounds_toArray, List.set_cons_zero, List.set_cons_succ, i64_w, i32_w]
           rfl
          refine pure_ (i := 5) (N := some 72) (v := ?_) (a' := ?_) #[true, true, true, true, true, true, false, false] rfl rfl (any_of HT_.out (by kernel_rfl)) (fun _ _ _ h => h) (Or.inl ⟨by rfl, ?_⟩) ?_ ?_
          rotate_left
          ·intro w'
           go_simp
           with_reducible rfl
          rotate_left
          ·simp only [Act.put, List.setIfInBounds_toArray, List.set_cons_zero, List.set_cons_succ, i64_w, i32_w]
           rfl
          refine one_ (i := 6) (N := some 73) #[true, true, true, true, true, true, true, false] rfl rfl (one_of HT_.out (by kernel_rfl)) (by decide) (fun K hK => ?_)
          refine value_ (w1 := ?_) (v := ?_) (by rfl) rfl ?_ ?_
          rotate_left 2
          ·go_simp
           constructor
           ·rfl
           ·rfl
          have s2 := pw_cell_below (below_alloc (Below.refl _ _) (.cells #[.int .i64 (fr : Int), .int .i64 (x'.length : Int), .slice Ac y'.length cc] 51)) s0
          have s3 := pw_cell_below (below_alloc (Below.refl _ _) (.cells #[.int .i64 (fr : Int), .int .i64 (x'.length : Int), .slice Ac y'.length cc] 51)) s1
          refine hK.out _ _ ⟨s2, s3⟩ (fun hHeld => ?_)
          clear hK K
          refine norm_ (a' := ?_) ?_ ?_
          rotate_left
          ·show Act.put _ (some 73) _ = _
           simp only [Act.put, List.setIfInBounds_toArray, List.set_cons_zero, List.set_cons_succ, i64_w, i32_w]
           rfl
          refine pure_ (i := 7) (N := some 4) (v := ?_) (a' := ?_) #[true, true, true, true, true, true, true, true] rfl rfl (any_of HT_.out (by kernel_rfl)) (fun _ _ _ h => h) (Or.inl ⟨by rfl, ?_⟩) ?_ ?_
          rotate_left
          ·intro w'
           go_simp
           with_reducible rfl
          rotate_left
          ·simp only [Act.put, List.setIfInBounds_toArray, List.set_cons_zero, List.set_cons_succ, i64_w, i32_w]
           rfl
          refine done_ (done_of HT_.out (by kernel_rfl)) ?_
          -- REGION8END
          go_wp2
          go_ret
          refine ⟨_, rfl, ?_, below_alloc HB5.out _⟩
          have HB5s := HB5.out.size
          rw [HBT.out, midEdits, if_neg (fun h => HXY.out ⟨by rw [h.1]; rfl, by rw [h.2]; rfl⟩), if_pos (by
           rcases HBG.out with h | h | h
           ·exact .inl (List.eq_nil_of_length_eq_zero h)
           ·exact .inr (.inl (List.eq_nil_of_length_eq_zero h))
           ·exact .inr (.inr h))]
          exact own_single (Kd.R_lower HO.out HBd.out.size) HB5s
         ·have HBG := Aside0.mk hbig
          rw [decide_eq_false hbig]
          clear hbig
          have hx1 : x'.length ≤ 65536 := small_l HBG.out
          have hy1 : y'.length ≤ 65536 := small_r HBG.out
          obtain ⟨kt, T, hT, hI⟩ := table_ok x' y' hx1 hy1
          have HT := Aside0.mk hT
          have HI := Aside0.mk hI
          clear hT hI
          go_wp2_with (go_at_call 41; (with_reducible refine (diff_walk.calls kt (fr : Int) Ax (c0 - fr) x' Ay (c1 - fr) y' T _ HB0.out.reads HB0.out.cap HB1.out.reads HB1.out.cap (by omega) (by omega) hx1 hy1 HT.out HI.out).mono ?_); rintro e w1 ⟨v1, rfl, ho, hb⟩; have HO := Aside0.mk ho; have HB5 := Aside0.mk hb; clear ho hb)
          go_ret
          refine ⟨_, rfl, ?_, HB.out.trans (Below.mono HB5.out HB.out.size)⟩
          rw [HBT.out, midEdits, if_neg (fun h => HXY.out ⟨by rw [h.1]; rfl, by rw [h.2]; rfl⟩), if_neg (by
           rintro (h | h | h)
           ·exact HBG.out (.inl (by rw [h]; rfl))
           ·exact HBG.out (.inr (.inl (by rw [h]; rfl)))
           ·exact HBG.out (.inr (.inr h)))]
          exact Kd.S_lower HO.out HB.out.size
 ·rw [if_neg hl] at h; cases h
end Go.Proofs.Ytlabiajcohmjhaa.Pr
