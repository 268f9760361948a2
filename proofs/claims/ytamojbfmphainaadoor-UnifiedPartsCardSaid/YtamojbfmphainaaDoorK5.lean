/-
Several plain texts in one.
-/
import Derived.Outline
import Derived.Test.YtamojbfmphainaaDoorK4
import Derived.Test.YtamojbfmphainaaDoorK1
import Derived.Lib.IndexMore
import Derived.Test.YtamojbfmphainaaDoorK0
import Derived.Deep.Strs
import Derived.SizedLaws
import Derived.ChangeOld
import Derived.Carry
import Derived.Test.YtamojbfmphainaaDoorWWords
import Derived.Test.YtamojbfmphainaaDoorWMore
import Derived.Test.YtamojbfmphainaaDoorWLast
import Derived.KernelRfl
/-
The chapter's example of layer 6: it answers true.
-/
namespace Go.Proofs.YtamojbfmphainaaDoor.Pr
open Go.RowKit Go.Proofs.YtamojbfmphainaaDoorW.PrintWords Go.Proofs.YtamojbfmphainaaDoorW.PrintLast Go.Proofs.YtamojbfmphainaaDoorW.PrintMore
set_option linter.unusedVariables false
set_option linter.unusedSimpArgs false
theorem C_two (w : World) (s t : ByteArray) : Kd.string.C (w.alloc (.cells #[.string s, .string t] 9 (0, 0))) (some ⟨w.heap.size, 0, none⟩) 2 [s, t] := by
 have hb := blk_new w (.cells #[.string s, .string t] 9 (0, 0))
 refine ⟨rfl, by omega, fun _ => ⟨_, rfl, fun j p hj => ⟨[.string p], rfl, rfl, fun i u hu => ?_⟩⟩⟩
 rcases j with _ | _ | j
 ·obtain rfl : s = p := by simpa using hj
  rcases i with _ | i
  ·obtain rfl : Value.string s = u := by simpa using hu
   exact (blk_cell hb 0).trans rfl
  ·simp at hu
 ·obtain rfl : t = p := by simpa using hj
  rcases i with _ | i
  ·obtain rfl : Value.string t = u := by simpa using hu
   exact (blk_cell hb 1).trans rfl
  ·simp at hu
 ·simp at hj
theorem C_newH (w : World) (x : S41) (A : Option Addr) (c : Nat) (hc : x.f4.length ≤ c) (h : Kd.string.C w A x.f4.length x.f4) :
  Kd.C k41 (w.alloc (.cells #[.int .i64 x.f0, .int .i64 x.f1, .int .i64 x.f2, .int .i64 x.f3, .slice A x.f4.length c] 41 (0, 0))) (some ⟨w.heap.size, 0, none⟩) 1 [x] := by
 have hb := blk_new w (.cells #[.int .i64 x.f0, .int .i64 x.f1, .int .i64 x.f2, .int .i64 x.f3, .slice A x.f4.length c] 41 (0, 0))
 refine ⟨rfl, by omega, fun _ => ⟨_, rfl, fun j p hj => ?_⟩⟩
 rcases j with _ | j
 ·obtain rfl : x = p := by simpa using hj
  refine ⟨_, rfl, k41_mk _ x hc (Kd.C_alloc h _), fun i u hu => ?_⟩
  rcases i with _ | _ | _ | _ | _ | i
  ·obtain rfl := Option.some.inj hu; exact (blk_cell hb 0).trans rfl
  ·obtain rfl := Option.some.inj hu; exact (blk_cell hb 1).trans rfl
  ·obtain rfl := Option.some.inj hu; exact (blk_cell hb 2).trans rfl
  ·obtain rfl := Option.some.inj hu; exact (blk_cell hb 3).trans rfl
  ·obtain rfl := Option.some.inj hu; exact (blk_cell hb 4).trans rfl
  ·simp at hu
 ·simp at hj
theorem printU_calls (A : Option Addr) (c : Nat) (l : List S41) (w : World) (hL : LaidU w) (hr : Kd.C k41 w A l.length l) (hc : l.length ≤ c) (h12 : l.length ≤ 12) (hF : ∀ x ∈ l, FewH x ∧ ∀ s ∈ x.f4, s.size ≤ 499) :
  Calls Tryd.prog 10 #[.slice A l.length c] w fun e w' => e = .returned (.string (printL canH l ⟨#[]⟩)) ∧ Below w.heap.size w w' :=
 print_calls canH A c l w hL hr hc
  (fun x hx => ucan_ev x (by obtain ⟨h1, h2, h3, h4, h5, h6, h7, h8, h9⟩ := (hF x hx).1; exact ⟨by omega, by omega, by omega, by omega⟩) (by have := (hF x hx).1.1; omega) (fun s hs => by have := (hF x hx).2 s hs; omega))
  (fun x hx hc => by
   obtain ⟨⟨h1, h2, h3, h4, h5, h6, h7, h8, h9⟩, _⟩ := hF x hx
   unfold canH at hc
   rw [Bool.and_eq_true, Bool.and_eq_true] at hc
   have hr := of_decide_eq_true hc.2.1
   have e1 : 0 ≤ x.f1 := by rw [hr.2.2.2.1]; omega
   have e2 : 0 ≤ x.f3 := by rw [hr.2.2.2.2]; omega
   have := hr.2.1
   have := hr.2.2.1
   omega)
  (by omega) (fun x hx => ⟨by have := (hF x hx).1.1; omega, fun s hs => by have := (hF x hx).2 s hs; omega⟩)
set_option maxRecDepth 100000 in
set_option maxHeartbeats 4000000 in
theorem awakeU_calls (w : World) (hL : LaidU w) : Calls Tryd.prog 8 #[] w fun e w' => e = .returned (.bool true) ∧ Below w.heap.size w w' := by
 have HL := Aside0.mk hL
 clear hL
 go_enter Tryd.func8, Tryd.ntmps8
 go_upto_region 2 with (fail)
 have HS0 := C_two w ⟨#[45, 97, 10]⟩ ⟨#[43, 98]⟩
 have HB0 : Below w.heap.size w (w.alloc (.cells #[.string ⟨#[45, 97, 10]⟩, .string ⟨#[43, 98]⟩] 9 (0, 0))) := below_alloc (Below.refl _ _) _
 have hz0 : (w.alloc (.cells #[.string ⟨#[45, 97, 10]⟩, .string ⟨#[43, 98]⟩] 9 (0, 0))).heap.size = w.heap.size + 1 := by show (w.heap.push _).size = _; exact Array.size_push _
 generalize w.alloc (.cells #[.string ⟨#[45, 97, 10]⟩, .string ⟨#[43, 98]⟩] 9 (0, 0)) = W0 at HS0 HB0 hz0 ⊢
 rw [← hz0]
 have HBX := Aside0.mk (blk_new W0 (.cells #[.int .i64 0, .int .i64 1, .int .i64 0, .int .i64 1, .slice (some ⟨w.heap.size, 0, none⟩) 2 2] 41 (0, 0)))
 have HB1 : Below w.heap.size w (W0.alloc (.cells #[.int .i64 0, .int .i64 1, .int .i64 0, .int .i64 1, .slice (some ⟨w.heap.size, 0, none⟩) 2 2] 41 (0, 0))) := below_alloc HB0 _
 have HS1 := Aside0.mk (Kd.C_alloc HS0 (.cells #[.int .i64 0, .int .i64 1, .int .i64 0, .int .i64 1, .slice (some ⟨w.heap.size, 0, none⟩) 2 2] 41 (0, 0)))
 generalize W0.alloc (.cells #[.int .i64 0, .int .i64 1, .int .i64 0, .int .i64 1, .slice (some ⟨w.heap.size, 0, none⟩) 2 2] 41 (0, 0)) = W1 at HBX HB1 HS1 ⊢
 clear HS0 HB0 hz0
 generalize W0.heap.size = g at HBX ⊢
 obtain ⟨A, hA⟩ : ∃ A : Option Addr, A = some ⟨w.heap.size, 0, none⟩ := ⟨_, rfl⟩
 rw [← hA] at HBX HS1 ⊢
 clear hA
 have HL1 := Aside0.mk (HL.out.below HB1)
 have hC : ∀ W, Kd.string.C W A 2 exU.f4 → Kd.C k41 (W.alloc (.cells #[.int .i64 0, .int .i64 1, .int .i64 0, .int .i64 1, .slice A 2 2] 41 (0, 0))) (some ⟨W.heap.size, 0, none⟩) 1 [exU] := fun W h => C_newH W exU A 2 (Nat.le_refl _) h
 have hF : ∀ x ∈ [exU], FewH x ∧ ∀ s ∈ x.f4, s.size ≤ 499 := by
  intro x hx
  obtain rfl := List.mem_singleton.1 hx
  refine ⟨by decide, fun s hs => ?_⟩
  simp only [exU, List.mem_cons, List.not_mem_nil, or_false] at hs
  rcases hs with rfl | rfl
  ·show 3 ≤ 499; omega
  ·show 2 ≤ 499; omega
 have CP := Aside0.mk (show Calls Tryd.prog 10 #[.slice (some ⟨W1.heap.size, 0, none⟩) 1 1] (W1.alloc (.cells #[.int .i64 0, .int .i64 1, .int .i64 0, .int .i64 1, .slice A 2 2] 41 (0, 0))) fun e w' => e = .returned (.string (printL canH [exU] ⟨#[]⟩)) ∧ Below (W1.alloc (.cells #[.int .i64 0, .int .i64 1, .int .i64 0, .int .i64 1, .slice A 2 2] 41 (0, 0))).heap.size (W1.alloc (.cells #[.int .i64 0, .int .i64 1, .int .i64 0, .int .i64 1, .slice A 2 2] 41 (0, 0))) w' from printU_calls (some ⟨W1.heap.size, 0, none⟩) 1 [exU] (W1.alloc (.cells #[.int .i64 0, .int .i64 1, .int .i64 0, .int .i64 1, .slice A 2 2] 41 (0, 0))) (HL1.out.below (below_alloc (Below.refl _ _) _)) (hC W1 HS1.out) (by decide) (by decide) hF)
 rw [print_ex] at CP
 have HB2 := Aside0.mk (below_alloc HB1 (.cells #[.int .i64 0, .int .i64 1, .int .i64 0, .int .i64 1, .slice A 2 2] 41 (0, 0)))
 have HK2 := Aside0.mk (below_alloc (Below.refl W1.heap.size W1) (.cells #[.int .i64 0, .int .i64 1, .int .i64 0, .int .i64 1, .slice A 2 2] 41 (0, 0)))
 have z0 : W1.cell? ⟨g, 0, none⟩ = some (.int .i64 0) := (blk_cell HBX.out 0).trans rfl
 have z1 : W1.cell? ⟨g, 1, none⟩ = some (.int .i64 1) := (blk_cell HBX.out 1).trans rfl
 have z2 : W1.cell? ⟨g, 2, none⟩ = some (.int .i64 0) := (blk_cell HBX.out 2).trans rfl
 have z3 : W1.cell? ⟨g, 3, none⟩ = some (.int .i64 1) := (blk_cell HBX.out 3).trans rfl
 have z4 : W1.cell? ⟨g, 4, none⟩ = some (.slice A 2 2) := (blk_cell HBX.out 4).trans rfl
 obtain ⟨T, hT⟩ : ∃ T, T = exUT := ⟨_, rfl⟩
 rw [← hT] at CP
 have hP : parseU T = ([exU], 0, 0) := by rw [hT, parse_ex]
 have f1 : (T.toList == [64, 64, 32, 45, 49, 44, 49, 32, 43, 49, 44, 49, 32, 64, 64, 10, 45, 97, 10, 43, 98, 10, 92, 32, 78, 111, 32, 110, 101, 119, 108, 105, 110, 101, 32, 97, 116, 32, 101, 110, 100, 32, 111, 102, 32, 102, 105, 108, 101, 10]) = true := by rw [hT]; decide +kernel
 have hTs : T.size ≤ 1073741824 := by rw [hT]; decide
 clear hT
 have CQ := Aside0.mk (show ∀ W, LaidU W → Calls Tryd.prog 12 #[.string T] W fun e w' => ∃ B c, e = .returned (.tuple #[.slice B 1 c, .int .i64 0, .int .i64 0]) ∧ 1 ≤ c ∧ Kd.C k41 w' B 1 [exU] ∧ Below W.heap.size W w' from fun W h => by
  have h1 := parse_calls T hTs W h
  unfold ParseEnd at h1
  rw [hP] at h1
  exact h1)
 have CX := Aside0.mk (show ∀ W, LaidU W → Calls Tryd.prog 12 #[.string ⟨#[120]⟩] W fun e w' => ∃ B c, e = .returned (.tuple #[.slice B 0 c, .int .i64 1, .int .i64 3]) ∧ Below W.heap.size W w' from fun W h =>
  (parse_calls (⟨#[120]⟩ : ByteArray) (by decide) W h).mono fun e w' ⟨B, c, h1, _, _, h2⟩ => ⟨B, c, by rw [h1, parse_x]; rfl, h2⟩)
 clear hP hTs HB1
 go_upto_region 3 with (go_at_call 10; (with_reducible refine CP.out.mono ?_); rintro e w2 ⟨rfl, hb⟩; have HB3 := Aside0.mk (below_step HB2.out hb); have HK3 := Aside0.mk (below_step HK2.out hb); clear hb)
 have HL3 := Aside0.mk (HL.out.below HB3.out)
 go_upto_region 4 with (go_at_call 12; (with_reducible refine (CQ.out _ HL3.out).mono ?_); rintro e w3 ⟨B3, c3, rfl, hc3, hr3, hb⟩; have HC3 := Aside0.mk hc3; have HR3 := Aside0.mk hr3; have HB4 := Aside0.mk (below_step HB3.out hb); have HK4 := Aside0.mk (below_step HK3.out hb); clear hb hc3 hr3)
 have HL4 := Aside0.mk (HL.out.below HB4.out)
 go_upto_region 5 with (go_at_call 12; (with_reducible refine (CX.out _ HL4.out).mono ?_); rintro e w4 ⟨B4, c4, rfl, hb⟩; have HB5 := Aside0.mk (below_step HB4.out hb); have HK5 := Aside0.mk (below_step HK4.out hb); have HR4 := Aside0.mk (Kd.C_below HR3.out hb); clear hb)
 have y0 := pw_cell_below HK5.out z0
 have y1 := pw_cell_below HK5.out z1
 have y2 := pw_cell_below HK5.out z2
 have y3 := pw_cell_below HK5.out z3
 have y4 := pw_cell_below HK5.out z4
 clear z0 z1 z2 z3 z4
 have HS5 := Aside0.mk (Kd.C_below HS1.out HK5.out)
 obtain ⟨ks, hks⟩ := (SameH_ev [exU] (by decide) (by decide)).rounds
 have CS := Aside0.mk (show Calls Tryd.prog 14 #[.slice B3 1 c3, .slice (some ⟨w4.heap.size, 0, none⟩) 1 1] (w4.alloc (.cells #[.int .i64 0, .int .i64 1, .int .i64 0, .int .i64 1, .slice A 2 2] 41 (0, 0))) fun e w' => e = .returned (.bool true) ∧ Below (w4.alloc (.cells #[.int .i64 0, .int .i64 1, .int .i64 0, .int .i64 1, .slice A 2 2] 41 (0, 0))).heap.size (w4.alloc (.cells #[.int .i64 0, .int .i64 1, .int .i64 0, .int .i64 1, .slice A 2 2] 41 (0, 0))) w' from
  grapevineref05_Same.calls ks B3 c3 [exU] (some ⟨w4.heap.size, 0, none⟩) 1 [exU] true (w4.alloc (.cells #[.int .i64 0, .int .i64 1, .int .i64 0, .int .i64 1, .slice A 2 2] 41 (0, 0))) (Kd.C_alloc HR4.out _) HC3.out (hC w4 HS5.out) (by decide) hks)
 have HB6 := Aside0.mk (below_alloc HB5.out (.cells #[.int .i64 0, .int .i64 1, .int .i64 0, .int .i64 1, .slice A 2 2] 41 (0, 0)))
 clear hks hC hF
 go_wp2_with (go_at_call 14; (with_reducible refine CS.out.mono ?_); rintro e w5 ⟨rfl, hb⟩; have HB7 := Aside0.mk (below_step HB6.out hb); clear hb)
 go_ret
 exact ⟨rfl, HB7.out⟩
end Go.Proofs.YtamojbfmphainaaDoor.Pr
-- shrunk
/-
UnifiedPrints, walked.
-/
namespace Go.Proofs.YtamojbfmphainaaDoor.Pr
open Go.RowKit Go.Proofs.YtamojbfmphainaaDoorW.PrintWords Go.Proofs.YtamojbfmphainaaDoorW.PrintLast Go.Proofs.YtamojbfmphainaaDoorW.PrintMore
set_option linter.unusedVariables false
set_option linter.unusedSimpArgs false
end Go.Proofs.YtamojbfmphainaaDoor.Pr
-- shrunk
/-
Hunks as lines, in plain Lean: what is printed is made of lines; a head that is printed is read again.
-/
namespace Go.Proofs.YtamojbfmphainaaDoor.Pr
open Go.RowKit Go.Proofs.YtamojbfmphainaaDoorW.PrintWords Go.Proofs.YtamojbfmphainaaDoorW.PrintLast Go.Proofs.YtamojbfmphainaaDoorW.PrintMore
set_option linter.unusedVariables false
set_option linter.unusedSimpArgs false
theorem lns_one {x : List UInt8} (h : ¬ (10 : UInt8) ∈ x) : lns (x ++ [10]) = [x ++ [10]] := by
 induction x with
 | nil => simp [lns]
 | cons b x ih =>
  have hb : b ≠ 10 := fun e => h (e ▸ List.mem_cons_self)
  rw [List.cons_append, lns_no hb, ih (fun m => h (List.mem_cons_of_mem _ m))]
  rfl
def IsLn (t : ByteArray) : Prop := ∃ x, t.data.toList = x ++ [10] ∧ ¬ (10 : UInt8) ∈ x
theorem IsLn.closed {t : ByteArray} (h : IsLn t) : closedL t.data.toList = true := by
 obtain ⟨x, e, _⟩ := h
 rw [e, closedL]; simp
def bytesL (L : List ByteArray) : List UInt8 := L.flatMap (·.data.toList)
theorem bytesL_append (a b : List ByteArray) : bytesL (a ++ b) = bytesL a ++ bytesL b := by unfold bytesL; rw [List.flatMap_append]
theorem bytesL_cons (t : ByteArray) (b : List ByteArray) : bytesL (t :: b) = t.data.toList ++ bytesL b := rfl
theorem lns_lines (r : List UInt8) : ∀ (L : List ByteArray), (∀ t ∈ L, IsLn t) → lns (bytesL L ++ r) = L.map (·.data.toList) ++ lns r
 | [], _ => rfl
 | t :: L, h => by
  have ht := h t List.mem_cons_self
  rw [bytesL_cons, List.append_assoc, lns_append _ _ ht.closed, lns_lines r L (fun u hu => h u (List.mem_cons_of_mem _ hu))]
  obtain ⟨x, e, hx⟩ := ht
  show lns t.data.toList ++ _ = [t.data.toList] ++ _ ++ _
  rw [e, lns_one hx]
  rfl
theorem bs_of (t : ByteArray) : bs t.data.toList = t := rfl
theorem linesB_told (L : List ByteArray) (h : ∀ t ∈ L, IsLn t) (s : ByteArray) (hs : s.data.toList = bytesL L) : linesB s = L := by
 rw [linesB_lns, hs, ← List.append_nil (bytesL L), lns_lines [] L h, List.map_append, List.map_map]
 have e : (bs ∘ fun t : ByteArray => t.data.toList) = id := funext bs_of
 rw [e, List.map_id]
 exact List.append_nil _
def bodyT : List ByteArray → List ByteArray
 | [] => []
 | s :: r => (if closedL s.data.toList = true then [s] else [s ++ (⟨#[10]⟩ : ByteArray), openB]) ++ bodyT r
def toldH (x : Hk) : List ByteArray := headOf x :: bodyT x.f4
def toldL (l : List Hk) : List ByteArray := l.flatMap toldH
theorem lineOf_bytes (s : ByteArray) : (lineOf s).data.toList = bytesL (if closedL s.data.toList = true then [s] else [s ++ (⟨#[10]⟩ : ByteArray), openB]) := by
 unfold lineOf
 split
 ·simp [bytesL]
 ·simp only [bytesL, List.flatMap_cons, List.flatMap_nil, List.append_nil, ByteArray.data_append, Array.toList_append, List.append_assoc]
  rfl
theorem body_bytes : ∀ (r : List ByteArray) (out : ByteArray), (bodyOf r out).data.toList = out.data.toList ++ bytesL (bodyT r)
 | [], out => by simp [bodyOf, bodyT, bytesL]
 | s :: r, out => by
  rw [bodyOf, body_bytes r, bodyT, bytesL_append, ByteArray.data_append, Array.toList_append, lineOf_bytes, List.append_assoc]
theorem print_bytes (can : Hk → Bool) : ∀ (l : List Hk) (out : ByteArray), (∀ x ∈ l, can x = true) → (printL can l out).data.toList = out.data.toList ++ bytesL (toldL l)
 | [], out, _ => by simp [printL, toldL, bytesL]
 | x :: r, out, h => by
  have e : toldL (x :: r) = headOf x :: (bodyT x.f4 ++ toldL r) := rfl
  rw [printL, if_pos (h x List.mem_cons_self), print_bytes can r _ (fun y hy => h y (List.mem_cons_of_mem _ hy)), body_bytes, e, bytesL_cons, bytesL_append, ByteArray.data_append, Array.toList_append]
  simp only [List.append_assoc]
theorem print_all (can : Hk → Bool) : ∀ (l : List Hk) (out : ByteArray), (printL can l out).size ≠ 0 → ∀ x ∈ l, can x = true
 | [], out, _ => fun x hx => by cases hx
 | y :: r, out, h => fun x hx => by
  rw [printL] at h
  by_cases hc : can y = true
  ·rw [if_pos hc] at h
   rcases List.mem_cons.1 hx with rfl | hx
   ·exact hc
   ·exact print_all can r _ h x hx
  ·rw [if_neg hc] at h
   exact absurd rfl h
theorem dec_range : ∀ (u : Nat), ∀ c ∈ Lib.decDigits u, 48 ≤ c.toNat ∧ c.toNat ≤ 57 := by
 intro u
 induction u using Nat.strongRecOn with
 | ind u ih =>
  intro c hc
  rw [Lib.decDigits] at hc
  split at hc
  ·obtain rfl := List.mem_singleton.1 hc
   rw [UInt8.toNat_ofNat']; omega
  ·rcases List.mem_append.1 hc with hc | hc
   ·exact ih (u / 10) (by omega) c hc
   ·obtain rfl := List.mem_singleton.1 hc
    rw [UInt8.toNat_ofNat']; omega
theorem parse_append : ∀ (l : List UInt8) (acc v : Nat) (c : UInt8), Lib.parseUint10 acc l = .ok v → v < 1844674407370955161 → 48 ≤ c.toNat ∧ c.toNat ≤ 57 → Lib.parseUint10 acc (l ++ [c]) = .ok (v * 10 + (c.toNat - 48))
 | [], acc, v, c, h, hv, hc => by
  rw [Lib.parseUint10] at h
  injection h with h
  subst h
  rw [List.nil_append, Lib.parseUint10, if_pos hc, if_neg (by omega), if_neg (by omega), Lib.parseUint10]
 | b :: l, acc, v, c, h, hv, hc => by
  rw [Lib.parseUint10] at h
  rw [List.cons_append, Lib.parseUint10]
  split at h
  ·rename_i h1
   split at h
   ·cases h
   ·rename_i h2
    split at h
    ·cases h
    ·rename_i h3
     rw [if_pos h1, if_neg h2, if_neg h3]
     exact parse_append l _ v c h hv hc
  ·cases h
theorem parse_dec : ∀ (u : Nat), u < 1844674407370955161 → Lib.parseUint10 0 (Lib.decDigits u) = .ok u := by
 intro u
 induction u using Nat.strongRecOn with
 | ind u ih =>
  intro hu
  by_cases h : u < 10
  ·rw [Lib.decDigits_one h, Lib.parseUint10, if_pos (by rw [UInt8.toNat_ofNat']; omega), if_neg (by omega), if_neg (by rw [UInt8.toNat_ofNat']; omega), Lib.parseUint10, UInt8.toNat_ofNat']
   congr 1; omega
  ·rw [Lib.decDigits, dif_neg h, parse_append _ _ _ _ (ih (u / 10) (by omega) (by omega)) (by omega) (by rw [UInt8.toNat_ofNat']; omega), UInt8.toNat_ofNat']
   congr 1; omega
theorem dec_ne (u : Nat) : Lib.decDigits u ≠ [] := by
 rw [Lib.decDigits]; split <;> simp
theorem atoi_dec (u : Nat) (hu : u < 2147483648) : Lib.atoiAll (Lib.decDigits u) = .ok (u : Int) := by
 have hp := parse_dec u (by omega)
 have hr := dec_range u
 have hne := dec_ne u
 generalize Lib.decDigits u = d at hp hr hne
 rcases d with _ | ⟨c, r⟩
 ·exact absurd rfl hne
 ·have hc := hr c List.mem_cons_self
  unfold Lib.atoiAll Lib.parseMag
  have n43 : ¬ c.toNat = 43 := by omega
  have n45 : ¬ c.toNat = 45 := by omega
  simp only [n43, n45, or_self, if_false, reduceCtorEq, hp, not_false_eq_true, true_and, false_and]
  rw [if_neg (by omega)]
theorem numB_itoa (n : Int) (h0 : 0 ≤ n) (h1 : n < 2147483648) : numB (itoaB n) = some n := by
 obtain ⟨u, rfl⟩ : ∃ u : Nat, n = u := ⟨n.toNat, by omega⟩
 have e : (itoaB (u : Int)).data.toList = Lib.decDigits u := by
  unfold itoaB; rw [Lib.itoa_nonneg]
 unfold numB
 rw [e, atoi_dec u (by omega)]
 simp only [h0, h1, and_self, if_true]
theorem itoaB_range (n : Int) (h0 : 0 ≤ n) : ∀ c ∈ (itoaB n).data.toList, 48 ≤ c.toNat ∧ c.toNat ≤ 57 := by
 obtain ⟨u, rfl⟩ : ∃ u : Nat, n = u := ⟨n.toNat, by omega⟩
 have e : (itoaB (u : Int)).data.toList = Lib.decDigits u := by
  unfold itoaB; rw [Lib.itoa_nonneg]
 rw [e]; exact dec_range u
theorem cut_at (a b sep : List UInt8) (c : UInt8) (q : List UInt8) (hs : sep = c :: q) (ha : ¬ c ∈ a) : Lib.cut (a ++ sep ++ b) sep = (a, b, true) := by
 have hi : Lib.index (a ++ sep ++ b) sep = (a.length : Int) := by
  refine Lib.index_first (by simp) ?_ (fun j hj => ?_)
  ·unfold Lib.occAt
   rw [List.append_assoc, List.drop_left, List.isPrefixOf_iff_prefix]
   exact List.prefix_append _ _
  ·unfold Lib.occAt
   rw [List.append_assoc, List.drop_append_of_le_length (by omega), hs]
   rcases hd : a.drop j with _ | ⟨d, e⟩
   ·have := congrArg List.length hd; rw [List.length_drop] at this; simp at this; omega
   ·have hm : d ∈ a := List.mem_of_mem_drop (i := j) (by rw [hd]; exact List.mem_cons_self)
    have hne : c ≠ d := fun e2 => ha (e2 ▸ hm)
    simp [List.isPrefixOf, hne]
 unfold Lib.cut
 rw [hi, if_pos (by omega)]
 simp only [Int.toNat_natCast, List.append_assoc]
 rw [List.take_left, ← List.append_assoc, ← List.length_append, List.drop_left]
theorem sideB_from (a b : Int) (h0 : 0 ≤ a) (h1 : firstI a b < 2147483648) (h2 : 0 ≤ b) (h3 : b < 2147483648) : sideB (fromB a b) = some (a, b) := by
 have hf : 0 ≤ firstI a b := by unfold firstI; split <;> omega
 have e : (fromB a b).data.toList = (itoaB (firstI a b)).data.toList ++ [44] ++ (itoaB b).data.toList := by
  unfold fromB; simp only [ByteArray.data_append, Array.toList_append]
 have hc := cut_at (itoaB (firstI a b)).data.toList (itoaB b).data.toList [44] 44 [] rfl (fun h => by have := itoaB_range _ hf _ h; have e4 : (44 : UInt8).toNat = 44 := rfl; omega)
 rw [← e] at hc
 unfold sideB cutIs cutA cutC
 rw [hc]
 simp only [if_true]
 rw [show (⟨(itoaB (firstI a b)).data.toList.toArray⟩ : ByteArray) = itoaB (firstI a b) from rfl, show (⟨(itoaB b).data.toList.toArray⟩ : ByteArray) = itoaB b from rfl, numB_itoa _ hf h1, numB_itoa _ h2 h3]
 simp only
 rw [if_neg (by unfold firstI; split <;> omega)]
 congr 1
 unfold firstI
 split <;> simp <;> omega
theorem fromB_no (a b : Int) (h0 : 0 ≤ a) (h2 : 0 ≤ b) (c : UInt8) (hc : c.toNat < 44) : ¬ c ∈ (fromB a b).data.toList := by
 have hf : 0 ≤ firstI a b := by unfold firstI; split <;> omega
 have e : (fromB a b).data.toList = (itoaB (firstI a b)).data.toList ++ [44] ++ (itoaB b).data.toList := by
  unfold fromB; simp only [ByteArray.data_append, Array.toList_append]
 rw [e]
 intro h
 rcases List.mem_append.1 h with h | h
 ·rcases List.mem_append.1 h with h | h
  ·have := itoaB_range _ hf _ h; omega
  ·obtain rfl := List.mem_singleton.1 h; exact absurd hc (by decide)
 ·have := itoaB_range _ h2 _ h; omega
theorem pre_at (p r : List UInt8) : Lib.hasPrefix (p ++ r) p = true ∧ Lib.trimPrefix (p ++ r) p = r := by
 have h : Lib.hasPrefix (p ++ r) p = true := by unfold Lib.hasPrefix; rw [List.isPrefixOf_iff_prefix]; exact List.prefix_append _ _
 exact ⟨h, by unfold Lib.trimPrefix; rw [if_pos h, List.drop_left]⟩
theorem suf_at (r p : List UInt8) : Lib.hasSuffix (r ++ p) p = true ∧ Lib.trimSuffix (r ++ p) p = r := by
 have h : Lib.hasSuffix (r ++ p) p = true := by unfold Lib.hasSuffix; rw [List.isSuffixOf_iff_suffix]; exact List.suffix_append _ _
 exact ⟨h, by unfold Lib.trimSuffix; rw [if_pos h, List.length_append, Nat.add_sub_cancel, List.take_left]⟩
structure HeadOk (x : Hk) : Prop where
 a0 : 0 ≤ x.f0
 a1 : firstI x.f0 x.f1 < 2147483648
 b0 : 0 ≤ x.f1
 b1 : x.f1 < 2147483648
 c0 : 0 ≤ x.f2
 c1 : firstI x.f2 x.f3 < 2147483648
 d0 : 0 ≤ x.f3
 d1 : x.f3 < 2147483648
theorem headOf_bytes (x : Hk) : (headOf x).data.toList = [64, 64, 32, 45] ++ (((fromB x.f0 x.f1).data.toList ++ [32, 43] ++ (fromB x.f2 x.f3).data.toList) ++ [32, 64, 64, 10]) := by
 unfold headOf
 simp only [ByteArray.data_append, Array.toList_append, List.append_assoc]
 rfl
theorem head_at (x : Hk) (h : HeadOk x) : headB (headOf x) = some ⟨x.f0, x.f1, x.f2, x.f3, []⟩ := by
 obtain ⟨p1, p2⟩ := pre_at [64, 64, 32, 45] (((fromB x.f0 x.f1).data.toList ++ [32, 43] ++ (fromB x.f2 x.f3).data.toList) ++ [32, 64, 64, 10])
 obtain ⟨s1, s2⟩ := suf_at ((fromB x.f0 x.f1).data.toList ++ [32, 43] ++ (fromB x.f2 x.f3).data.toList) [32, 64, 64, 10]
 have hc := cut_at (fromB x.f0 x.f1).data.toList (fromB x.f2 x.f3).data.toList [32, 43] 32 [43] rfl (fromB_no _ _ h.a0 h.b0 32 (by decide))
 rw [← headOf_bytes] at p1 p2
 have e1 : (preB (headOf x) [64, 64, 32, 45]).data.toList = (fromB x.f0 x.f1).data.toList ++ [32, 43] ++ (fromB x.f2 x.f3).data.toList ++ [32, 64, 64, 10] := p2
 have e2 : (headT (headOf x)).data.toList = (fromB x.f0 x.f1).data.toList ++ [32, 43] ++ (fromB x.f2 x.f3).data.toList := by
  unfold headT sufB
  show Lib.trimSuffix _ _ = _
  rw [e1, s2]
 unfold headB cutIs cutA cutC
 rw [e1, e2, hc, if_pos ⟨p1, s1, rfl⟩]
 show (match sideB (fromB x.f0 x.f1), sideB (fromB x.f2 x.f3) with | some p, some q => some (⟨p.1, p.2, q.1, q.2, []⟩ : Hk) | _, _ => none) = _
 rw [sideB_from _ _ h.a0 h.a1 h.b0 h.b1, sideB_from _ _ h.c0 h.c1 h.d0 h.d1]
theorem head_line (x : Hk) (h : HeadOk x) : IsLn (headOf x) := by
 refine ⟨[64, 64, 32, 45] ++ (((fromB x.f0 x.f1).data.toList ++ [32, 43] ++ (fromB x.f2 x.f3).data.toList) ++ [32, 64, 64]), by rw [headOf_bytes]; simp, ?_⟩
 intro hm
 simp only [List.mem_append] at hm
 rcases hm with hm | ((hm | hm) | hm) | hm
 ·exact absurd hm (by decide)
 ·exact fromB_no _ _ h.a0 h.b0 10 (by decide) hm
 ·exact absurd hm (by decide)
 ·exact fromB_no _ _ h.c0 h.d0 10 (by decide) hm
 ·exact absurd hm (by decide)
theorem canH_ok {x : Hk} (h : canH x = true) : HeadOk x ∧ okL false x.f4 = true ∧ x.f1 = manyL 45 x.f4 ∧ x.f3 = manyL 43 x.f4 ∧ ∀ s ∈ x.f4, noNl s = true := by
 unfold canH bndH at h
 rw [Bool.and_eq_true, Bool.and_eq_true, decide_eq_true_eq, List.all_eq_true] at h
 obtain ⟨h1, h2, h3, h4, h5, h6⟩ := h
 obtain ⟨r1, r2, r3, r4, r5⟩ := of_decide_eq_true h2
 exact ⟨⟨r2, h3, by omega, h4, r3, h5, by omega, h6⟩, r1, r4, r5, h1⟩
end Go.Proofs.YtamojbfmphainaaDoor.Pr
-- shrunk
/-
What is printed is parsed, in plain Lean.
-/
namespace Go.Proofs.YtamojbfmphainaaDoor.Pr
open Go.RowKit Go.Proofs.YtamojbfmphainaaDoorW.PrintWords Go.Proofs.YtamojbfmphainaaDoorW.PrintLast Go.Proofs.YtamojbfmphainaaDoorW.PrintMore
set_option linter.unusedVariables false
set_option linter.unusedSimpArgs false
theorem bt_head (s : ByteArray) (c : UInt8) (r : List UInt8) (h : s.data.toList = c :: r) : bt s 0 = (c.toNat : Int) := by
 have hs : 0 < s.size := by
  have e : s.data.toList.length = s.size := rfl
  rw [h] at e; simp at e; omega
 unfold bt
 rw [dif_pos (show (0 : Int).toNat < s.size from hs)]
 have e : s[(0 : Int).toNat]'hs = s.data.toList[0]'(hs) := rfl
 rw [e]
 congr 1
 congr 1
 simp [h]
theorem bt_app (s t : ByteArray) (hs : 0 < s.size) : bt (s ++ t) 0 = bt s 0 := by
 have e : s.data.toList.length = s.size := rfl
 rcases h : s.data.toList with _ | ⟨c, r⟩
 ·rw [h] at e; simp at e; omega
 ·rw [bt_head s c r h, bt_head (s ++ t) c (r ++ t.data.toList) (by rw [ByteArray.data_append, Array.toList_append, h]; rfl)]
theorem bt_openB : bt openB 0 = 92 := bt_head openB 92 _ rfl
theorem chop_nl (s : ByteArray) : chopB (s ++ (⟨#[10]⟩ : ByteArray)) = s := by
 unfold chopB
 rw [ByteArray.data_append, Array.toList_append, (suf_at s.data.toList [10]).2]
theorem last_at (l : List Hk) (y : Hk) : (l ++ [y])[(l ++ [y]).length - 1]? = some y := by simp
theorem set_at (l : List Hk) (y z : Hk) : (l ++ [y]).set ((l ++ [y]).length - 1) z = l ++ [z] := by
 rw [List.length_append, List.length_singleton, Nat.add_sub_cancel, List.set_append_right _ _ (Nat.le_refl _), Nat.sub_self]; rfl
theorem line_step (l : List Hk) (y : Hk) (an bn an' bn' : Int) (bare : Bool) (t : ByteArray) (hc : closedL t.data.toList = true) (ha : 0 ≤ an') (hb : 0 ≤ bn') (hw : bt t 0 = 45 → wentB y.f4 = false)
  (hs : (bt t 0 = 32 ∧ an = an' + 1 ∧ bn = bn' + 1) ∨ (bt t 0 = 45 ∧ an = an' + 1 ∧ bn = bn') ∨ (bt t 0 = 43 ∧ an = an' ∧ bn = bn' + 1)) :
  stepP ⟨l ++ [y], an, bn, bare⟩ t = some ⟨l ++ [{ y with f4 := y.f4 ++ [t] }], an', bn', false⟩ := by
 have hne : t ≠ openB := by
  rintro rfl
  rw [bt_openB] at hs
  omega
 have hst : stepL (wentB y.f4) (bt t 0) an bn = some (an', bn') := by
  unfold stepL
  rcases hs with ⟨h, h1, h2⟩ | ⟨h, h1, h2⟩ | ⟨h, h1, h2⟩
  ·rw [if_pos h, h1, h2]; congr 1; simp
  ·rw [hw h, h, if_neg (by decide), if_pos rfl, h1, h2]; simp
  ·rw [h, if_neg (by decide), if_neg (by decide), if_pos rfl, h1, h2]; simp
 have hl : lineR (wentB y.f4) (closedL t.data.toList) (bt t 0) an bn = true := by
  unfold lineR
  rw [hst, hc]
  simp [ha, hb]
 unfold stepP
 rw [if_neg (fun h => hne h.1)]
 simp only
 rw [if_neg (show ¬ (an = 0 ∧ bn = 0) by omega), last_at]
 simp only [hl, if_true, hst, Option.map_some]
 unfold addL
 rw [last_at]
 simp only
 rw [set_at]
theorem open_step (l : List Hk) (y : Hk) (d : List ByteArray) (s : ByteArray) (an bn : Int) (hy : y.f4 = d ++ [s ++ (⟨#[10]⟩ : ByteArray)]) :
  stepP ⟨l ++ [y], an, bn, false⟩ openB = some ⟨l ++ [{ y with f4 := d ++ [s] }], an, bn, true⟩ := by
 unfold stepP
 rw [if_pos ⟨rfl, rfl⟩]
 simp only
 unfold chopL
 rw [last_at]
 simp only
 rw [set_at]
 unfold chopH
 have e : y.f4.length - 1 = d.length := by rw [hy]; simp
 have e2 : rdOf ByteArray.empty y.f4 ((d.length : Nat) : Int) = s ++ (⟨#[10]⟩ : ByteArray) := by
  rw [rdS_at (by rw [hy]; simp)]
  simp [hy]
 rw [e, e2, chop_nl, hy, List.set_append_right _ _ (Nat.le_refl _), Nat.sub_self]
 rfl
theorem went_snoc (d : List ByteArray) (s : ByteArray) : wentB (d ++ [s]) = decide (bt s 0 = 43) := by
 unfold wentB
 rw [List.getLast?_append]
 simp only [List.getLast?_singleton, Option.some_or]
 rw [Bool.eq_iff_iff, beq_iff_eq, decide_eq_true_iff]
theorem parseL_step {st st' : PS} {t : ByteArray} (r : List ByteArray) (i : Nat) (h : stepP st t = some st') : parseL (t :: r) i st = parseL r (i + 1) st' := by
 rw [parseL, h]
theorem fold_body (l : List Hk) (x : Hk) (rest : List ByteArray) : ∀ (rem done : List ByteArray) (bare : Bool) (i : Nat), okL (wentB done) rem = true →
  ∃ b', parseL (bodyT rem ++ rest) i ⟨l ++ [{ x with f4 := done }], (manyL 45 rem : Int), (manyL 43 rem : Int), bare⟩ = parseL rest (i + (bodyT rem).length) ⟨l ++ [{ x with f4 := done ++ rem }], 0, 0, b'⟩
 | [], done, bare, i, _ => ⟨bare, by simp [bodyT, manyL]⟩
 | s :: rem, done, bare, i, h => by
  rw [okL, Bool.and_eq_true, decide_eq_true_eq] at h
  obtain ⟨⟨h0, hsg, hcm⟩, hrem⟩ := h
  rw [← went_snoc done s] at hrem
  have hw : bt s 0 = 45 → wentB done = false := fun e => Bool.eq_false_iff.2 (fun e2 => hcm ⟨e, e2⟩)
  have e45 : ((manyL 45 (s :: rem) : Nat) : Int) = (if bt s 0 = 32 ∨ bt s 0 = 45 then 1 else 0) + (manyL 45 rem : Nat) := by
   rw [manyL]; simp only [h0, true_and]; split <;> omega
  have e43 : ((manyL 43 (s :: rem) : Nat) : Int) = (if bt s 0 = 32 ∨ bt s 0 = 43 then 1 else 0) + (manyL 43 rem : Nat) := by
   rw [manyL]; simp only [h0, true_and]; split <;> omega
  have hs : (bt s 0 = 32 ∧ ((manyL 45 (s :: rem) : Nat) : Int) = (manyL 45 rem : Nat) + 1 ∧ ((manyL 43 (s :: rem) : Nat) : Int) = (manyL 43 rem : Nat) + 1) ∨ (bt s 0 = 45 ∧ ((manyL 45 (s :: rem) : Nat) : Int) = (manyL 45 rem : Nat) + 1 ∧ ((manyL 43 (s :: rem) : Nat) : Int) = (manyL 43 rem : Nat)) ∨ (bt s 0 = 43 ∧ ((manyL 45 (s :: rem) : Nat) : Int) = (manyL 45 rem : Nat) ∧ ((manyL 43 (s :: rem) : Nat) : Int) = (manyL 43 rem : Nat) + 1) := by
   rw [e45, e43]
   rcases hsg with e | e | e <;> rw [e] <;> simp <;> omega
  rw [bodyT]
  by_cases hc : closedL s.data.toList = true
  ·rw [if_pos hc]
   have hst := line_step l { x with f4 := done } _ _ ((manyL 45 rem : Nat) : Int) ((manyL 43 rem : Nat) : Int) bare s hc (by omega) (by omega) hw hs
   obtain ⟨b', ih⟩ := fold_body l x rest rem (done ++ [s]) false (i + 1) hrem
   refine ⟨b', ?_⟩
   show parseL (s :: (bodyT rem ++ rest)) i _ = _
   rw [parseL_step _ _ hst, ih, List.append_assoc]
   congr 1
   show i + 1 + _ = i + ([s] ++ bodyT rem).length
   rw [List.length_append, List.length_singleton]; omega
  ·rw [if_neg hc]
   have b0 : bt (s ++ (⟨#[10]⟩ : ByteArray)) 0 = bt s 0 := bt_app _ _ h0
   have hst := line_step l { x with f4 := done } _ _ ((manyL 45 rem : Nat) : Int) ((manyL 43 rem : Nat) : Int) bare (s ++ (⟨#[10]⟩ : ByteArray)) (by rw [ByteArray.data_append, Array.toList_append, closedL]; simp) (by omega) (by omega) (by rw [b0]; exact hw) (by rw [b0]; exact hs)
   have hop := open_step l { x with f4 := done ++ [s ++ (⟨#[10]⟩ : ByteArray)] } done s (manyL 45 rem : Int) (manyL 43 rem : Int) rfl
   obtain ⟨b', ih⟩ := fold_body l x rest rem (done ++ [s]) true (i + 1 + 1) hrem
   refine ⟨b', ?_⟩
   show parseL ((s ++ (⟨#[10]⟩ : ByteArray)) :: openB :: (bodyT rem ++ rest)) i _ = _
   rw [parseL_step _ _ hst, parseL_step _ _ hop, ih, List.append_assoc]
   congr 1
   show i + 1 + 1 + _ = i + ([s ++ (⟨#[10]⟩ : ByteArray), openB] ++ bodyT rem).length
   rw [List.length_append]; show _ = i + (2 + _); omega
theorem headOf_ne (x : Hk) : headOf x ≠ openB := by
 intro e
 have h : (headOf x).data.toList = openB.data.toList := by rw [e]
 rw [headOf_bytes] at h
 exact absurd (List.cons.inj h).1 (by decide)
theorem head_step (l : List Hk) (x : Hk) (b : Bool) (h : HeadOk x) : stepP ⟨l, 0, 0, b⟩ (headOf x) = some ⟨l ++ [{ x with f4 := [] }], x.f1, x.f3, true⟩ := by
 unfold stepP
 rw [if_neg (fun h => headOf_ne x h.1), if_pos ⟨rfl, rfl⟩, head_at x h]
 rfl
theorem fold_hunk (l : List Hk) (x : Hk) (rest : List ByteArray) (b : Bool) (i : Nat) (h : canH x = true) : ∃ b', parseL (toldH x ++ rest) i ⟨l, 0, 0, b⟩ = parseL rest (i + (toldH x).length) ⟨l ++ [x], 0, 0, b'⟩ := by
 obtain ⟨ho, hk, e1, e3, hn⟩ := canH_ok h
 obtain ⟨b', ih⟩ := fold_body l x rest x.f4 [] true (i + 1) hk
 refine ⟨b', ?_⟩
 show parseL (headOf x :: (bodyT x.f4 ++ rest)) i _ = _
 have h2 : (⟨l ++ [{ x with f4 := [] }], x.f1, x.f3, true⟩ : PS) = ⟨l ++ [{ x with f4 := [] }], ((manyL 45 x.f4 : Nat) : Int), ((manyL 43 x.f4 : Nat) : Int), true⟩ := by
  rw [PS.mk.injEq]; exact ⟨rfl, e1, e3, rfl⟩
 rw [parseL_step _ _ (head_step l x b ho), h2, ih, List.nil_append]
 congr 1
 show i + 1 + _ = i + ((bodyT x.f4).length + 1)
 omega
theorem fold_list (rest : List ByteArray) : ∀ (l l0 : List Hk) (b : Bool) (i : Nat), (∀ x ∈ l, canH x = true) → ∃ b', parseL (toldL l ++ rest) i ⟨l0, 0, 0, b⟩ = parseL rest (i + (toldL l).length) ⟨l0 ++ l, 0, 0, b'⟩
 | [], l0, b, i, _ => ⟨b, by simp [toldL]⟩
 | x :: l, l0, b, i, h => by
  obtain ⟨b1, h1⟩ := fold_hunk l0 x (toldL l ++ rest) b i (h x List.mem_cons_self)
  obtain ⟨b2, h2⟩ := fold_list rest l (l0 ++ [x]) b1 (i + (toldH x).length) (fun y hy => h y (List.mem_cons_of_mem _ hy))
  refine ⟨b2, ?_⟩
  have e : toldL (x :: l) = toldH x ++ toldL l := rfl
  rw [e, List.append_assoc, h1, h2, List.append_assoc, List.length_append, Nat.add_assoc]
  rfl
theorem body_lines : ∀ (r : List ByteArray) (came : Bool), okL came r = true → (∀ s ∈ r, noNl s = true) → ∀ t ∈ bodyT r, IsLn t
 | [], _, _, _ => fun t ht => by cases ht
 | s :: r, came, h, hn => fun t ht => by
  rw [okL, Bool.and_eq_true, decide_eq_true_eq] at h
  obtain ⟨⟨h0, -, -⟩, hrem⟩ := h
  have hlen : s.data.toList.length = s.size := rfl
  have hne : s.data.toList ≠ [] := by intro e; rw [e] at hlen; simp at hlen; omega
  have hs : ¬ (10 : UInt8) ∈ s.data.toList.dropLast := of_decide_eq_true (hn s List.mem_cons_self)
  have hd := List.dropLast_concat_getLast hne
  rw [bodyT] at ht
  rcases List.mem_append.1 ht with ht | ht
  ·by_cases hc : closedL s.data.toList = true
   ·rw [if_pos hc] at ht
    obtain rfl := List.mem_singleton.1 ht
    refine ⟨t.data.toList.dropLast, ?_, hs⟩
    unfold closedL at hc
    rw [Bool.or_eq_true, decide_eq_true_eq, beq_iff_eq, List.getLast?_eq_some_getLast hne] at hc
    rcases hc with hc | hc
    ·exact absurd hc hne
    ·rw [Option.some.inj hc] at hd; exact hd.symm
   ·rw [if_neg hc] at ht
    have hl : s.data.toList.getLast hne ≠ 10 := by
     intro e
     apply hc
     unfold closedL
     rw [List.getLast?_eq_some_getLast hne, e]; simp
    rcases List.mem_cons.1 ht with rfl | ht
    ·refine ⟨s.data.toList, by rw [ByteArray.data_append, Array.toList_append], ?_⟩
     rw [← hd]
     intro hm
     rcases List.mem_append.1 hm with hm | hm
     ·exact hs hm
     ·exact hl (List.mem_singleton.1 hm).symm
    ·obtain rfl := List.mem_singleton.1 ht
     exact ⟨[92, 32, 78, 111, 32, 110, 101, 119, 108, 105, 110, 101, 32, 97, 116, 32, 101, 110, 100, 32, 111, 102, 32, 102, 105, 108, 101], rfl, by decide⟩
  ·exact body_lines r _ hrem (fun s hs => hn s (List.mem_cons_of_mem _ hs)) t ht
theorem told_lines (l : List Hk) (h : ∀ x ∈ l, canH x = true) : ∀ t ∈ toldL l, IsLn t := by
 intro t ht
 obtain ⟨x, hx, ht⟩ := List.mem_flatMap.1 ht
 obtain ⟨ho, hk, e1, e3, hn⟩ := canH_ok (h x hx)
 rcases List.mem_cons.1 ht with rfl | ht
 ·exact head_line x ho
 ·exact body_lines x.f4 false hk hn t ht
theorem print_lines (l : List Hk) (h : ∀ x ∈ l, canH x = true) : linesB (printL canH l ⟨#[]⟩) = toldL l :=
 linesB_told _ (told_lines l h) _ (print_bytes canH l ⟨#[]⟩ h)
theorem parse_print (l : List Hk) (h : ∀ x ∈ l, canH x = true) : parseU (printL canH l ⟨#[]⟩) = (l, 0, 0) := by
 unfold parseU
 rw [print_lines l h]
 obtain ⟨b, hb⟩ := fold_list [] l [] true 0 h
 rw [List.append_nil] at hb
 rw [hb, parseL]
 simp
end Go.Proofs.YtamojbfmphainaaDoor.Pr
-- shrunk
/-
What is parsed, printed, is the text again, in plain Lean.
-/
namespace Go.Proofs.YtamojbfmphainaaDoor.Pr
open Go.RowKit Go.Proofs.YtamojbfmphainaaDoorW.PrintWords Go.Proofs.YtamojbfmphainaaDoorW.PrintLast Go.Proofs.YtamojbfmphainaaDoorW.PrintMore
set_option linter.unusedVariables false
set_option linter.unusedSimpArgs false
theorem cut_back {s sep a b : List UInt8} (h : Lib.cut s sep = (a, b, true)) : s = a ++ sep ++ b := by
 unfold Lib.cut at h
 rcases Lib.index_spec s sep with ⟨e, _⟩ | ⟨i, e, hi, ho, _⟩
 ·rw [e, if_neg (by decide)] at h
  exact absurd (congrArg (·.2.2) h) (by simp)
 ·rw [e, if_pos (by omega)] at h
  simp only [Int.toNat_natCast, Prod.mk.injEq, and_true] at h
  unfold Lib.occAt at ho
  rw [List.isPrefixOf_iff_prefix] at ho
  obtain ⟨r, hr⟩ := ho
  have e2 : s.drop (i + sep.length) = r := by rw [← List.drop_drop, ← hr, List.drop_left]
  rw [← h.1, ← h.2, e2, List.append_assoc, hr, List.take_append_drop]
theorem cutB_back {s : ByteArray} {sep : List UInt8} (h : cutIs s sep = true) : s.data.toList = (cutA s sep).data.toList ++ sep ++ (cutC s sep).data.toList := by
 unfold cutIs at h
 exact cut_back (s := s.data.toList) (sep := sep) (a := (Lib.cut s.data.toList sep).1) (b := (Lib.cut s.data.toList sep).2.1) (by rw [← h])
theorem sideB_back {u : ByteArray} {p : Int × Int} (h : sideB u = some p) : fromB p.1 p.2 = u ∧ 0 ≤ p.1 ∧ firstI p.1 p.2 < 2147483648 ∧ 0 ≤ p.2 ∧ p.2 < 2147483648 := by
 unfold sideB at h
 split at h
 ·rename_i hc
  have hb := cutB_back hc
  rcases hx : numB (cutA u [44]) with _ | x
  ·rw [hx] at h; cases h
  ·rcases hy : numB (cutC u [44]) with _ | y
   ·rw [hx, hy] at h; cases h
   ·rw [hx, hy] at h
    simp only at h
    obtain ⟨x0, x1, xe⟩ := numB_range hx
    obtain ⟨y0, y1, ye⟩ := numB_range hy
    split at h
    ·cases h
    ·rename_i hn
     obtain rfl := Option.some.inj h
     have ef : firstI (if y > 0 then x - 1 else x) y = x := by unfold firstI; split <;> simp_all
     refine ⟨?_, ?_, ?_, y0, y1⟩
     ·simp only
      unfold fromB
      rw [ef, xe, ye]
      apply ByteArray.ext
      apply Array.toList_inj.1
      simp only [ByteArray.data_append, Array.toList_append]
      exact hb.symm
     ·simp only; split <;> omega
     ·simp only; rw [ef]; exact x1
 ·cases h
theorem headB_back {t : ByteArray} {h : Hk} (e : headB t = some h) : headOf h = t ∧ HeadOk h ∧ h.f4 = [] := by
 unfold headB at e
 split at e
 ·rename_i hc
  obtain ⟨h1, h2, h3⟩ := hc
  rcases hp : sideB (cutA (headT t) [32, 43]) with _ | p
  ·rw [hp] at e; cases e
  ·rcases hq : sideB (cutC (headT t) [32, 43]) with _ | q
   ·rw [hp, hq] at e; cases e
   ·rw [hp, hq] at e
    obtain rfl := Option.some.inj e
    obtain ⟨p1, p2, p3, p4, p5⟩ := sideB_back hp
    obtain ⟨q1, q2, q3, q4, q5⟩ := sideB_back hq
    refine ⟨?_, ⟨p2, p3, p4, p5, q2, q3, q4, q5⟩, rfl⟩
    have hb := cutB_back h3
    have e1 : t.data.toList = [64, 64, 32, 45] ++ (preB t [64, 64, 32, 45]).data.toList := by
     unfold Lib.hasPrefix at h1
     obtain ⟨r, hr⟩ := List.isPrefixOf_iff_prefix.1 h1
     show _ = _ ++ Lib.trimPrefix t.data.toList [64, 64, 32, 45]
     rw [← hr, (pre_at _ _).2]
    have e2 : (preB t [64, 64, 32, 45]).data.toList = (headT t).data.toList ++ [32, 64, 64, 10] := by
     unfold Lib.hasSuffix at h2
     obtain ⟨r, hr⟩ := List.isSuffixOf_iff_suffix.1 h2
     show _ = Lib.trimSuffix (preB t [64, 64, 32, 45]).data.toList [32, 64, 64, 10] ++ _
     rw [← hr, (suf_at _ _).2]
    apply ByteArray.ext
    apply Array.toList_inj.1
    rw [headOf_bytes, e1, e2, hb, ← p1, ← q1]
 ·cases e
theorem okL_snoc : ∀ (L : List ByteArray) (came : Bool) (t : ByteArray), okL came (L ++ [t]) = (okL came L && decide (0 < t.size ∧ (bt t 0 = 32 ∨ bt t 0 = 43 ∨ bt t 0 = 45) ∧ ¬ (bt t 0 = 45 ∧ (if L = [] then came else wentB L) = true)))
 | [], came, t => by simp [okL]
 | s :: L, came, t => by
  rw [List.cons_append, okL, okL, okL_snoc L _ t, Bool.and_assoc]
  congr 3
  have e : (if L = [] then decide (bt s 0 = 43) else wentB L) = (if s :: L = [] then came else wentB (s :: L)) := by
   rcases L with _ | ⟨u, r⟩
   ·rw [if_pos rfl, if_neg (by simp)]; exact (went_snoc [] s).symm
   ·rw [if_neg (by simp), if_neg (by simp)]; unfold wentB; rw [List.getLast?_cons_cons]
  rw [e]
theorem manyL_snoc (z : Int) : ∀ (L : List ByteArray) (t : ByteArray), manyL z (L ++ [t]) = manyL z L + (if 0 < t.size ∧ (bt t 0 = 32 ∨ bt t 0 = z) then 1 else 0)
 | [], t => by simp [manyL]
 | s :: L, t => by rw [List.cons_append, manyL, manyL, manyL_snoc z L t, Nat.add_assoc]
theorem bodyT_append : ∀ (a b : List ByteArray), bodyT (a ++ b) = bodyT a ++ bodyT b
 | [], b => rfl
 | s :: a, b => by rw [List.cons_append, bodyT, bodyT, bodyT_append a b, List.append_assoc]
theorem toldL_snoc (l : List Hk) (y : Hk) : toldL (l ++ [y]) = toldL l ++ (headOf y :: bodyT y.f4) := by
 unfold toldL; rw [List.flatMap_append]; simp [toldH]
theorem canH_of {x : Hk} (h : HeadOk x) (hk : okL false x.f4 = true) (e1 : x.f1 = manyL 45 x.f4) (e3 : x.f3 = manyL 43 x.f4) (hn : ∀ s ∈ x.f4, noNl s = true) : canH x = true := by
 unfold canH
 rw [Bool.and_eq_true, Bool.and_eq_true, List.all_eq_true]
 exact ⟨hn, decide_eq_true ⟨hk, h.a0, h.c0, e1, e3⟩, decide_eq_true ⟨h.a1, h.b1, h.c1, h.d1⟩⟩
structure LastOk (st : PS) (l : List Hk) (y : Hk) : Prop where
 at_ : st.l = l ++ [y]
 can : ∀ x ∈ l, canH x = true
 head : HeadOk y
 ok : okL false y.f4 = true
 nl : ∀ s ∈ y.f4, noNl s = true
 an : y.f1 = manyL 45 y.f4 + st.an
 bn : y.f3 = manyL 43 y.f4 + st.bn
 open_ : st.bare = false → ∃ d s, y.f4 = d ++ [s ++ (⟨#[10]⟩ : ByteArray)] ∧ 0 < s.size ∧ ¬ (10 : UInt8) ∈ s.data.toList
structure Back (C : List ByteArray) (st : PS) : Prop where
 a0 : 0 ≤ st.an
 b0 : 0 ≤ st.bn
 text : bytesL (toldL st.l) = bytesL C
 last : (st.l = [] ∧ st.an = 0 ∧ st.bn = 0 ∧ st.bare = true) ∨ ∃ l y, LastOk st l y
theorem Back.all {C : List ByteArray} {st : PS} (h : Back C st) (ha : st.an = 0) (hb : st.bn = 0) : ∀ x ∈ st.l, canH x = true := by
 intro x hx
 rcases h.last with ⟨e, _⟩ | ⟨l, y, k⟩
 ·rw [e] at hx; cases hx
 ·rw [k.at_] at hx
  rcases List.mem_append.1 hx with hx | hx
  ·exact k.can x hx
  ·obtain rfl := List.mem_singleton.1 hx
   exact canH_of k.head k.ok (by rw [k.an, ha, Int.add_zero]) (by rw [k.bn, hb, Int.add_zero]) k.nl
theorem not_closed {s : ByteArray} (h0 : 0 < s.size) (h : ¬ (10 : UInt8) ∈ s.data.toList) : closedL s.data.toList ≠ true := by
 have hlen : s.data.toList.length = s.size := rfl
 intro hc
 unfold closedL at hc
 rw [Bool.or_eq_true, decide_eq_true_eq, beq_iff_eq] at hc
 rcases hc with e | e
 ·rw [e] at hlen; simp at hlen; omega
 ·exact h (List.mem_of_getLast? e)
theorem noNl_of {s : ByteArray} (h : ¬ (10 : UInt8) ∈ s.data.toList) : noNl s = true := decide_eq_true (fun hm => h (List.dropLast_subset _ hm))
theorem line_open {t : ByteArray} (hn : noNl t = true) (h0 : 0 < t.size) (hc : closedL t.data.toList = true) (h1 : bt t 0 ≠ 10) : ∃ s : ByteArray, t = s ++ (⟨#[10]⟩ : ByteArray) ∧ 0 < s.size ∧ ¬ (10 : UInt8) ∈ s.data.toList := by
 have hlen : t.data.toList.length = t.size := rfl
 have hne : t.data.toList ≠ [] := by intro e; rw [e] at hlen; simp at hlen; omega
 have hd := List.dropLast_concat_getLast hne
 have hl : t.data.toList.getLast hne = 10 := by
  unfold closedL at hc
  rw [Bool.or_eq_true, decide_eq_true_eq, beq_iff_eq, List.getLast?_eq_some_getLast hne] at hc
  rcases hc with hc | hc
  ·exact absurd hc hne
  ·exact Option.some.inj hc
 rw [hl] at hd
 refine ⟨⟨t.data.toList.dropLast.toArray⟩, ?_, ?_, of_decide_eq_true hn⟩
 ·apply ByteArray.ext
  apply Array.toList_inj.1
  rw [ByteArray.data_append, Array.toList_append]
  exact hd.symm
 ·show 0 < (t.data.toList.dropLast.toArray).size
  rw [List.size_toArray]
  rcases hx : t.data.toList.dropLast with _ | ⟨c, r⟩
  ·rw [hx] at hd
   exact absurd (bt_head t 10 [] hd.symm) h1
  ·simp
theorem Back.step {C : List ByteArray} {st st' : PS} {t : ByteArray} (h : Back C st) (hn : noNl t = true) (h0 : 0 < t.size) (e : stepP st t = some st') : Back (C ++ [t]) st' := by
 obtain ⟨L, an, bn, bare⟩ := st
 unfold stepP at e
 split at e
 ·rename_i hc
  obtain ⟨rfl, hb⟩ := hc
  simp only at hb
  subst hb
  rcases h.last with ⟨_, _, _, e4⟩ | ⟨l, y, k⟩
  ·cases e4
  ·obtain ⟨d, s, hy, hs0, hs10⟩ := k.open_ rfl
   have hL : L = l ++ [y] := k.at_
   subst hL
   have hst := open_step l y d s an bn hy
   unfold stepP at hst
   rw [if_pos ⟨rfl, rfl⟩] at hst
   have e3 := hst.symm.trans e
   obtain rfl := Option.some.inj e3
   have hb0 : bt (s ++ (⟨#[10]⟩ : ByteArray)) 0 = bt s 0 := bt_app _ _ hs0
   have hz : 0 < (s ++ (⟨#[10]⟩ : ByteArray)).size := by rw [ByteArray.size_append]; omega
   have hok := k.ok
   have han := k.an
   have hbn := k.bn
   rw [hy] at hok han hbn
   refine ⟨h.a0, h.b0, ?_, .inr ⟨l, { y with f4 := d ++ [s] }, rfl, k.can, ⟨k.head.a0, k.head.a1, k.head.b0, k.head.b1, k.head.c0, k.head.c1, k.head.d0, k.head.d1⟩, ?_, ?_, ?_, ?_, fun hb => by cases hb⟩⟩
   ·have ht := h.text
    simp only at ht ⊢
    rw [bytesL_append, ← ht, toldL_snoc, toldL_snoc, hy, bodyT_append, bodyT_append]
    rw [show bodyT [s ++ (⟨#[10]⟩ : ByteArray)] = [s ++ (⟨#[10]⟩ : ByteArray)] by rw [bodyT, if_pos (by rw [ByteArray.data_append, Array.toList_append, closedL]; simp)]; rfl]
    rw [show bodyT [s] = [s ++ (⟨#[10]⟩ : ByteArray), openB] by rw [bodyT, if_neg (not_closed hs0 hs10)]; rfl]
    simp only [bytesL_append, bytesL_cons, List.append_assoc, List.cons_append, List.nil_append]
    rfl
   ·rw [okL_snoc, hb0] at hok
    simp only
    rw [okL_snoc]
    simp only [hz, hs0, true_and] at hok ⊢
    exact hok
   ·intro u hu
    rcases List.mem_append.1 hu with hu | hu
    ·exact k.nl u (by rw [hy]; exact List.mem_append_left _ hu)
    ·obtain rfl := List.mem_singleton.1 hu; exact noNl_of hs10
   ·simp only
    rw [manyL_snoc, hb0] at han
    rw [manyL_snoc]
    simp only [hz, hs0, true_and] at han ⊢
    exact han
   ·simp only
    rw [manyL_snoc, hb0] at hbn
    rw [manyL_snoc]
    simp only [hz, hs0, true_and] at hbn ⊢
    exact hbn
 ·rename_i hno
  simp only at e
  split at e
  ·rename_i hz
   obtain ⟨rfl, rfl⟩ := hz
   rcases hh : headB t with _ | x
   ·rw [hh] at e; cases e
   ·rw [hh, Option.map_some] at e
    obtain rfl := Option.some.inj e
    obtain ⟨x1, x2, x3⟩ := headB_back hh
    refine ⟨x2.b0, x2.d0, ?_, .inr ⟨L, x, rfl, h.all rfl rfl, x2, by rw [x3]; rfl, (fun s hs => by rw [x3] at hs; cases hs), by simp [x3, manyL], by simp [x3, manyL], fun hb => by cases hb⟩⟩
    have ht := h.text
    simp only at ht ⊢
    rw [bytesL_append, ← ht, toldL_snoc, x3, x1, bytesL_append]
    rfl
  ·rename_i hz
   rcases h.last with ⟨e1, e2, e3, _⟩ | ⟨l, y, k⟩
   ·exact absurd ⟨e2, e3⟩ hz
   ·have hL : L = l ++ [y] := k.at_
    subst hL
    rw [last_at] at e
    simp only at e
    split at e
    ·rename_i hr
     obtain ⟨a, b, hs, hcl, ha, hb⟩ := lineR_some hr
     rw [hs, Option.map_some] at e
     obtain rfl := Option.some.inj e
     have ead : addL (l ++ [y]) ((l ++ [y]).length - 1) t = l ++ [{ y with f4 := y.f4 ++ [t] }] := by
      unfold addL; rw [last_at]; simp only; rw [set_at]
     have hsg : (bt t 0 = 32 ∧ an = a + 1 ∧ bn = b + 1) ∨ (bt t 0 = 45 ∧ wentB y.f4 = false ∧ an = a + 1 ∧ bn = b) ∨ (bt t 0 = 43 ∧ an = a ∧ bn = b + 1) := by
      unfold stepL at hs
      split at hs
      ·rename_i h1
       have := Option.some.inj hs
       simp only [Prod.mk.injEq] at this
       exact .inl ⟨h1, by omega, by omega⟩
      ·split at hs
       ·rename_i h1
        split at hs
        ·cases hs
        ·rename_i h2
         have := Option.some.inj hs
         simp only [Prod.mk.injEq] at this
         exact .inr (.inl ⟨h1, Bool.eq_false_iff.2 h2, by omega, by omega⟩)
       ·split at hs
        ·rename_i h1
         have := Option.some.inj hs
         simp only [Prod.mk.injEq] at this
         exact .inr (.inr ⟨h1, by omega, by omega⟩)
        ·cases hs
     have han := k.an
     have hbn := k.bn
     simp only at han hbn
     refine ⟨ha, hb, ?_, .inr ⟨l, { y with f4 := y.f4 ++ [t] }, ead, k.can, ⟨k.head.a0, k.head.a1, k.head.b0, k.head.b1, k.head.c0, k.head.c1, k.head.d0, k.head.d1⟩, ?_, ?_, ?_, ?_, fun _ => ?_⟩⟩
     ·have ht := h.text
      simp only at ht ⊢
      rw [bytesL_append, ← ht, ead, toldL_snoc, toldL_snoc, bodyT_append]
      rw [show bodyT [t] = [t] by rw [bodyT, if_pos hcl]; rfl]
      simp only [bytesL_append, bytesL_cons, List.append_assoc]
      rfl
     ·simp only
      rw [okL_snoc, k.ok, Bool.true_and, decide_eq_true_eq]
      refine ⟨h0, by omega, fun hw => ?_⟩
      obtain ⟨w1, w2⟩ := hw
      rcases hsg with ⟨g, _⟩ | ⟨_, g, _⟩ | ⟨g, _⟩
      ·omega
      ·split at w2
       ·cases w2
       ·rw [g] at w2; cases w2
      ·omega
     ·intro u hu
      rcases List.mem_append.1 hu with hu | hu
      ·exact k.nl u hu
      ·obtain rfl := List.mem_singleton.1 hu; exact hn
     ·simp only
      rw [manyL_snoc]
      simp only [h0, true_and]
      rcases hsg with ⟨g, _⟩ | ⟨g, _⟩ | ⟨g, _⟩ <;> rw [g] <;> simp <;> omega
     ·simp only
      rw [manyL_snoc]
      simp only [h0, true_and]
      rcases hsg with ⟨g, _⟩ | ⟨g, _⟩ | ⟨g, _⟩ <;> rw [g] <;> simp <;> omega
     ·obtain ⟨s, hs1, hs2, hs3⟩ := line_open hn h0 hcl (by omega)
      exact ⟨y.f4, s, by rw [hs1], hs2, hs3⟩
    ·cases e
end Go.Proofs.YtamojbfmphainaaDoor.Pr
-- shrunk
/-
UnifiedBack, walked.
-/
namespace Go.Proofs.YtamojbfmphainaaDoor.Pr
open Go.RowKit Go.Proofs.YtamojbfmphainaaDoorW.PrintWords Go.Proofs.YtamojbfmphainaaDoorW.PrintLast Go.Proofs.YtamojbfmphainaaDoorW.PrintMore
set_option linter.unusedVariables false
set_option linter.unusedSimpArgs false
theorem body_le : ∀ (r : List ByteArray), (∀ s ∈ r, s.size ≤ 499) → (bytesL (bodyT r)).length ≤ r.length * 530
 | [], _ => Nat.zero_le _
 | s :: r, h => by
  have ih := body_le r (fun u hu => h u (List.mem_cons_of_mem _ hu))
  have h0 := h s List.mem_cons_self
  have e0 : s.data.toList.length = s.size := rfl
  have e1 : (bytesL (if closedL s.data.toList = true then [s] else [s ++ (⟨#[10]⟩ : ByteArray), openB])).length ≤ 530 := by
   split
   ·simp only [bytesL_cons, List.length_append]; show _ + 0 ≤ _; omega
   ·simp only [bytesL_cons, List.length_append, ByteArray.data_append, Array.toList_append]; show _ + 1 + (28 + 0) ≤ _; omega
  rw [bodyT, bytesL_append, List.length_append, List.length_cons]
  omega
theorem told_le : ∀ (l : List S41), (∀ x ∈ l, canH x = true) → (∀ x ∈ l, FewH x ∧ ∀ s ∈ x.f4, s.size ≤ 499) → (bytesL (toldL l)).length ≤ l.length * 20000
 | [], _, _ => Nat.zero_le _
 | x :: l, h, hF => by
  have ih := told_le l (fun y hy => h y (List.mem_cons_of_mem _ hy)) (fun y hy => hF y (List.mem_cons_of_mem _ hy))
  obtain ⟨⟨h30, _⟩, h499⟩ := hF x List.mem_cons_self
  have hb := body_le x.f4 h499
  obtain ⟨ho, _⟩ := canH_ok (h x List.mem_cons_self)
  obtain ⟨a0, a1, b0, b1, c0, c1, d0, d1⟩ := ho
  unfold firstI at a1 c1
  have s1 : (fromB x.f0 x.f1).size ≤ 50 := fromB_size a0 (by split at a1 <;> omega) b0 (by omega)
  have s2 : (fromB x.f2 x.f3).size ≤ 50 := fromB_size c0 (by split at c1 <;> omega) d0 (by omega)
  have e1 : (fromB x.f0 x.f1).data.toList.length = (fromB x.f0 x.f1).size := rfl
  have e2 : (fromB x.f2 x.f3).data.toList.length = (fromB x.f2 x.f3).size := rfl
  have e : toldL (x :: l) = headOf x :: (bodyT x.f4 ++ toldL l) := rfl
  have hh : (headOf x).data.toList.length ≤ 200 := by
   rw [headOf_bytes]; simp only [List.length_append, List.length_cons, List.length_nil]; omega
  rw [e, bytesL_cons, bytesL_append, List.length_append, List.length_append, List.length_cons]
  omega
theorem print_le (l : List S41) (h : ∀ x ∈ l, canH x = true) (h12 : l.length ≤ 12) (hF : ∀ x ∈ l, FewH x ∧ ∀ s ∈ x.f4, s.size ≤ 499) : (printL canH l ⟨#[]⟩).size ≤ 240000 := by
 have e : (printL canH l ⟨#[]⟩).data.toList.length = (printL canH l ⟨#[]⟩).size := rfl
 rw [print_bytes canH l ⟨#[]⟩ h, List.length_append] at e
 have := told_le l h hF
 have e0 : (⟨#[]⟩ : ByteArray).data.toList.length = 0 := rfl
 omega
theorem parseOk_calls (s : ByteArray) (hs : s.size ≤ 1073741824) (a : List S41) (n e0 : Int) (h : parseU s = (a, n, e0)) (W : World) (hL : LaidU W) :
  Calls Tryd.prog 12 #[.string s] W fun e w' => ∃ B c, e = .returned (.tuple #[.slice B a.length c, .int .i64 n, .int .i64 e0]) ∧ a.length ≤ c ∧ Kd.C k41 w' B a.length a ∧ Below W.heap.size W w' := by
 have h1 := parse_calls s hs W hL
 unfold ParseEnd at h1
 rw [h] at h1
 exact h1
theorem ne_nil {T : ByteArray} (h : T.size ≠ 0) : (T.toList == ([] : List UInt8)) = false := by
 rw [beq_eq_false_iff_ne]; exact str_ne T h

end Go.Proofs.YtamojbfmphainaaDoor.Pr
-- shrunk
/-
UnifiedParts, walked.
-/
namespace Go.Proofs.YtamojbfmphainaaDoor.Pr
open Go.RowKit Go.Proofs.YtamojbfmphainaaDoorW.PrintWords Go.Proofs.YtamojbfmphainaaDoorW.PrintLast Go.Proofs.YtamojbfmphainaaDoorW.PrintMore
set_option linter.unusedVariables false
set_option linter.unusedSimpArgs false
theorem toldL_append (l m : List S41) : toldL (l ++ m) = toldL l ++ toldL m := by unfold toldL; rw [List.flatMap_append]
theorem parts_parse (l m : List S41) (hl : ∀ x ∈ l, canH x = true) (hm : ∀ x ∈ m, canH x = true) : parseU (printL canH l ⟨#[]⟩ ++ printL canH m ⟨#[]⟩) = (l ++ m, 0, 0) := by
 have hlm : ∀ x ∈ l ++ m, canH x = true := fun x hx => (List.mem_append.1 hx).elim (hl x) (hm x)
 have e : printL canH l ⟨#[]⟩ ++ printL canH m ⟨#[]⟩ = printL canH (l ++ m) ⟨#[]⟩ := by
  apply ByteArray.ext
  apply Array.toList_inj.1
  rw [ByteArray.data_append, Array.toList_append, print_bytes canH l ⟨#[]⟩ hl, print_bytes canH m ⟨#[]⟩ hm, print_bytes canH (l ++ m) ⟨#[]⟩ hlm, toldL_append, bytesL_append]
  rfl
 rw [e]
 exact parse_print (l ++ m) hlm
theorem k41_heap : Kd.Heap k41 := Kd.heap_iso _ (Kd.heap_pair (Kd.heap_int .i64) (Kd.heap_pair (Kd.heap_int .i64) (Kd.heap_pair (Kd.heap_int .i64) (Kd.heap_pair (Kd.heap_int .i64) (Kd.heap_slice 9 Kd.heap_string)))))
def xnl : ByteArray := ⟨#[120, 10]⟩
theorem parts_wrong (l m : List S41) (hl : ∀ x ∈ l, canH x = true) (hm : ∀ x ∈ m, canH x = true) : parseU (printL canH l ⟨#[]⟩ ++ xnl ++ printL canH m ⟨#[]⟩) = ([], ((toldL l).length : Int) + 1, 3) := by
 have hall : ∀ t ∈ toldL l ++ (xnl :: toldL m), IsLn t := by
  intro t ht
  rcases List.mem_append.1 ht with ht | ht
  ·exact told_lines l hl t ht
  ·rcases List.mem_cons.1 ht with rfl | ht
   ·exact ⟨[120], rfl, by decide⟩
   ·exact told_lines m hm t ht
 have e : linesB (printL canH l ⟨#[]⟩ ++ xnl ++ printL canH m ⟨#[]⟩) = toldL l ++ (xnl :: toldL m) := by
  refine linesB_told _ hall _ ?_
  rw [ByteArray.data_append, Array.toList_append, ByteArray.data_append, Array.toList_append, print_bytes canH l ⟨#[]⟩ hl, print_bytes canH m ⟨#[]⟩ hm, bytesL_append, bytesL_cons, List.append_assoc]
  rfl
 unfold parseU
 rw [e]
 obtain ⟨b, hb⟩ := fold_list (xnl :: toldL m) l [] true 0 hl
 rw [hb, parseL]
 have hs : stepP ⟨[] ++ l, 0, 0, b⟩ xnl = none := by
  unfold stepP
  rw [if_neg (fun h => absurd h.1 (by decide)), if_pos ⟨rfl, rfl⟩, show headB xnl = none by kernel_rfl]
  rfl
 rw [hs]
 simp only [Nat.zero_add]
theorem told_count : ∀ (l : List S41), (∀ x ∈ l, canH x = true) → (toldL l).length ≤ (bytesL (toldL l)).length := by
 intro l h
 have key : ∀ (L : List ByteArray), (∀ t ∈ L, IsLn t) → L.length ≤ (bytesL L).length := by
  intro L
  induction L with
  | nil => intro _; exact Nat.zero_le _
  | cons t L ih =>
   intro hL
   obtain ⟨x, e, _⟩ := hL t List.mem_cons_self
   have := ih (fun u hu => hL u (List.mem_cons_of_mem _ hu))
   rw [bytesL_cons, List.length_append, e, List.length_append, List.length_cons, List.length_singleton]
   omega
 exact key _ (told_lines l h)
theorem parts_count (l : List S41) (hl : ∀ x ∈ l, canH x = true) (h : (printL canH l ⟨#[]⟩).size ≤ 240000) : lines_Count.f (printL canH l ⟨#[]⟩) = some ((toldL l).length : Int) := by
 rw [Count_some _ (by omega), print_lines l hl]

set_option maxRecDepth 100000 in
set_option maxHeartbeats 8000000 in
theorem parts_many (A : Option Addr) (c : Nat) (l : List S41) (D : Option Addr) (c' : Nat) (m : List S41) (w : World) (hL : LaidU w) (hr : Kd.C k41 w A l.length l) (hc : l.length ≤ c) (hr' : Kd.C k41 w D m.length m) (hc' : m.length ≤ c') (hn : l.length ≤ 4611686018427387904) (hm : m.length ≤ 4611686018427387904) (hf : (fewU l && fewU m) = false) :
  Calls Tryd.prog 6 #[.slice A l.length c, .slice D m.length c'] w fun e w' => e = .returned (.bool true) ∧ Below w.heap.size w w' := by
 have HL := Aside0.mk hL
 have HR0 := Aside0.mk hr
 have HS0 := Aside0.mk hr'
 have HL0 := HL
 have HC := Aside0.mk hc
 have HD := Aside0.mk hc'
 have CA := Aside0.mk (awakeU_calls w hL)
 obtain ⟨kf, hkf⟩ := (fewU_ev l hn).rounds
 obtain ⟨kg, hkg⟩ := (fewU_ev m hm).rounds
 obtain ⟨fl, hfl⟩ : ∃ b, b = fewU l := ⟨_, rfl⟩
 obtain ⟨fm, hfm⟩ : ∃ b, b = fewU m := ⟨_, rfl⟩
 rw [← hfl] at hkf hf
 rw [← hfm] at hkg hf
 have CF := Aside0.mk (fun W (h : Kd.C k41 W A l.length l) => grapevinelaw06_few.calls kf A c l fl W h HC.out hkf)
 have CG := Aside0.mk (fun W (h : Kd.C k41 W D m.length m) => grapevinelaw06_few.calls kg D c' m fm W h HD.out hkg)
 clear hL hr hc hr' hc' hn hm hkf hkg hfl hfm
 cases fl <;> cases fm <;> first | (exact absurd hf (by decide)) | skip
 all_goals clear hf
 all_goals as_aux_lemma =>
  go_enter Tryd.func6, Tryd.ntmps6
  go_wp2_with (first
    | (go_at_call 8; (with_reducible refine CA.out.mono ?_); rintro e w1 ⟨rfl, hb⟩; have HB1 := Aside0.mk hb; have HR1 := Aside0.mk (Kd.C_below HR0.out hb); have HS1 := Aside0.mk (Kd.C_below HS0.out hb); have HL1 := Aside0.mk (HL.out.below HB1.out); clear hb)
    | (go_at_call 9; (with_reducible refine (CF.out _ HR1.out).mono ?_); rintro e w2 ⟨rfl, hb⟩; have HB2 := Aside0.mk (below_step HB1.out hb); have HR2 := Aside0.mk (Kd.C_below HR1.out hb); have HS2 := Aside0.mk (Kd.C_below HS1.out hb); have HL2 := Aside0.mk (HL.out.below HB2.out); clear hb)
    | (go_at_call 9; (with_reducible refine (CG.out _ HS2.out).mono ?_); rintro e w3 ⟨rfl, hb⟩; have HB3 := Aside0.mk (below_step HB2.out hb); have HR3 := Aside0.mk (Kd.C_below HR2.out hb); have HS3 := Aside0.mk (Kd.C_below HS2.out hb); have HL3 := Aside0.mk (HL.out.below HB3.out); clear hb))
  go_ret
  exact ⟨rfl, HB3.out⟩
set_option maxRecDepth 100000 in
set_option maxHeartbeats 8000000 in
theorem parts_none (A : Option Addr) (c : Nat) (l : List S41) (D : Option Addr) (c' : Nat) (m : List S41) (w : World) (hL : LaidU w) (hr : Kd.C k41 w A l.length l) (hc : l.length ≤ c) (hr' : Kd.C k41 w D m.length m) (hc' : m.length ≤ c') (hn : l.length ≤ 4611686018427387904) (hm : m.length ≤ 4611686018427387904) (hf : (fewU l && fewU m) = true) (he : (printL canH l ⟨#[]⟩).size = 0 ∨ (printL canH m ⟨#[]⟩).size = 0) :
  Calls Tryd.prog 6 #[.slice A l.length c, .slice D m.length c'] w fun e w' => e = .returned (.bool true) ∧ Below w.heap.size w w' := by
 have HL := Aside0.mk hL
 have HR0 := Aside0.mk hr
 have HS0 := Aside0.mk hr'
 have HL0 := HL
 have HC := Aside0.mk hc
 have HD := Aside0.mk hc'
 have CA := Aside0.mk (awakeU_calls w hL)
 obtain ⟨kf, hkf⟩ := (fewU_ev l hn).rounds
 obtain ⟨kg, hkg⟩ := (fewU_ev m hm).rounds
 obtain ⟨fl, hfl⟩ : ∃ b, b = fewU l := ⟨_, rfl⟩
 obtain ⟨fm, hfm⟩ : ∃ b, b = fewU m := ⟨_, rfl⟩
 rw [← hfl] at hkf hf
 rw [← hfm] at hkg hf
 have CF := Aside0.mk (fun W (h : Kd.C k41 W A l.length l) => grapevinelaw06_few.calls kf A c l fl W h HC.out hkf)
 have CG := Aside0.mk (fun W (h : Kd.C k41 W D m.length m) => grapevinelaw06_few.calls kg D c' m fm W h HD.out hkg)
 obtain ⟨hlf, hmf⟩ := Bool.and_eq_true_iff.1 hf
 subst hlf
 subst hmf
 have FL := Aside0.mk (fewU_of hfl.symm)
 have FM := Aside0.mk (fewU_of hfm.symm)
 obtain ⟨T, hT⟩ : ∃ T, T = printL canH l ⟨#[]⟩ := ⟨_, rfl⟩
 obtain ⟨V, hV⟩ : ∃ V, V = printL canH m ⟨#[]⟩ := ⟨_, rfl⟩
 have CP := Aside0.mk (show ∀ W, LaidU W → Kd.C k41 W A l.length l → Calls Tryd.prog 10 #[.slice A l.length c] W fun e w' => e = .returned (.string T) ∧ Below W.heap.size W w' from fun W h1 h2 => by
  rw [hT]; exact printU_calls A c l W h1 h2 HC.out FL.out.1 FL.out.2)
 have CR := Aside0.mk (show ∀ W, LaidU W → Kd.C k41 W D m.length m → Calls Tryd.prog 10 #[.slice D m.length c'] W fun e w' => e = .returned (.string V) ∧ Below W.heap.size W w' from fun W h1 h2 => by
  rw [hV]; exact printU_calls D c' m W h1 h2 HD.out FM.out.1 FM.out.2)
 rw [← hT, ← hV] at he
 clear hL hr hc hr' hc' hn hm hkf hkg hfl hfm hT hV hf
 by_cases h1 : T.size = 0
 ·rw [ByteArray.size_eq_zero_iff.1 h1] at CP
  clear h1 he
  as_aux_lemma =>
   go_enter Tryd.func6, Tryd.ntmps6
   go_wp2_with (first
     | (go_at_call 8; (with_reducible refine CA.out.mono ?_); rintro e w1 ⟨rfl, hb⟩; have HB1 := Aside0.mk hb; have HR1 := Aside0.mk (Kd.C_below HR0.out hb); have HS1 := Aside0.mk (Kd.C_below HS0.out hb); have HL1 := Aside0.mk (HL.out.below HB1.out); clear hb)
     | (go_at_call 9; (with_reducible refine (CF.out _ HR1.out).mono ?_); rintro e w2 ⟨rfl, hb⟩; have HB2 := Aside0.mk (below_step HB1.out hb); have HR2 := Aside0.mk (Kd.C_below HR1.out hb); have HS2 := Aside0.mk (Kd.C_below HS1.out hb); have HL2 := Aside0.mk (HL.out.below HB2.out); clear hb)
     | (go_at_call 9; (with_reducible refine (CG.out _ HS2.out).mono ?_); rintro e w3 ⟨rfl, hb⟩; have HB3 := Aside0.mk (below_step HB2.out hb); have HR3 := Aside0.mk (Kd.C_below HR2.out hb); have HS3 := Aside0.mk (Kd.C_below HS2.out hb); have HL3 := Aside0.mk (HL.out.below HB3.out); clear hb)
     | (go_at_call 10; (with_reducible refine (CP.out _ HL3.out HR3.out).mono ?_); rintro e w4 ⟨rfl, hb⟩; have HB4 := Aside0.mk (below_step HB3.out hb); have HR4 := Aside0.mk (Kd.C_below HR3.out hb); have HS4 := Aside0.mk (Kd.C_below HS3.out hb); have HL4 := Aside0.mk (HL.out.below HB4.out); clear hb)
     | (go_at_call 10; (with_reducible refine (CR.out _ HL4.out HS4.out).mono ?_); rintro e w5 ⟨rfl, hb⟩; have HB5 := Aside0.mk (below_step HB4.out hb); have HR5 := Aside0.mk (Kd.C_below HR4.out hb); have HS5 := Aside0.mk (Kd.C_below HS4.out hb); have HL5 := Aside0.mk (HL.out.below HB5.out); clear hb))
   go_ret
   exact ⟨rfl, HB5.out⟩
 ·have h2 : V.size = 0 := he.resolve_left h1
  rw [ByteArray.size_eq_zero_iff.1 h2] at CR
  have g1 : (T.toList == ([] : List UInt8)) = false := ne_nil h1
  clear h1 h2 he
  as_aux_lemma =>
   go_enter Tryd.func6, Tryd.ntmps6
   go_wp2_with (first
     | (go_at_call 8; (with_reducible refine CA.out.mono ?_); rintro e w1 ⟨rfl, hb⟩; have HB1 := Aside0.mk hb; have HR1 := Aside0.mk (Kd.C_below HR0.out hb); have HS1 := Aside0.mk (Kd.C_below HS0.out hb); have HL1 := Aside0.mk (HL.out.below HB1.out); clear hb)
     | (go_at_call 9; (with_reducible refine (CF.out _ HR1.out).mono ?_); rintro e w2 ⟨rfl, hb⟩; have HB2 := Aside0.mk (below_step HB1.out hb); have HR2 := Aside0.mk (Kd.C_below HR1.out hb); have HS2 := Aside0.mk (Kd.C_below HS1.out hb); have HL2 := Aside0.mk (HL.out.below HB2.out); clear hb)
     | (go_at_call 9; (with_reducible refine (CG.out _ HS2.out).mono ?_); rintro e w3 ⟨rfl, hb⟩; have HB3 := Aside0.mk (below_step HB2.out hb); have HR3 := Aside0.mk (Kd.C_below HR2.out hb); have HS3 := Aside0.mk (Kd.C_below HS2.out hb); have HL3 := Aside0.mk (HL.out.below HB3.out); clear hb)
     | (go_at_call 10; (with_reducible refine (CP.out _ HL3.out HR3.out).mono ?_); rintro e w4 ⟨rfl, hb⟩; have HB4 := Aside0.mk (below_step HB3.out hb); have HR4 := Aside0.mk (Kd.C_below HR3.out hb); have HS4 := Aside0.mk (Kd.C_below HS3.out hb); have HL4 := Aside0.mk (HL.out.below HB4.out); clear hb)
     | (go_at_call 10; (with_reducible refine (CR.out _ HL4.out HS4.out).mono ?_); rintro e w5 ⟨rfl, hb⟩; have HB5 := Aside0.mk (below_step HB4.out hb); have HR5 := Aside0.mk (Kd.C_below HR4.out hb); have HS5 := Aside0.mk (Kd.C_below HS4.out hb); have HL5 := Aside0.mk (HL.out.below HB5.out); clear hb))
   go_ret
   exact ⟨rfl, HB5.out⟩
set_option maxRecDepth 100000 in
set_option maxHeartbeats 8000000 in
theorem parts_full (A : Option Addr) (c : Nat) (l : List S41) (D : Option Addr) (c' : Nat) (m : List S41) (w : World) (hL : LaidU w) (hr : Kd.C k41 w A l.length l) (hc : l.length ≤ c) (hr' : Kd.C k41 w D m.length m) (hc' : m.length ≤ c') (hn : l.length ≤ 4611686018427387904) (hm : m.length ≤ 4611686018427387904) (hf : (fewU l && fewU m) = true) (he : (printL canH l ⟨#[]⟩).size ≠ 0 ∧ (printL canH m ⟨#[]⟩).size ≠ 0) :
  Calls Tryd.prog 6 #[.slice A l.length c, .slice D m.length c'] w fun e w' => e = .returned (.bool true) ∧ Below w.heap.size w w' := by
 have HL := Aside0.mk hL
 have HR0 := Aside0.mk hr
 have HS0 := Aside0.mk hr'
 have HL0 := HL
 have HC := Aside0.mk hc
 have HD := Aside0.mk hc'
 have CA := Aside0.mk (awakeU_calls w hL)
 obtain ⟨kf, hkf⟩ := (fewU_ev l hn).rounds
 obtain ⟨kg, hkg⟩ := (fewU_ev m hm).rounds
 obtain ⟨fl, hfl⟩ : ∃ b, b = fewU l := ⟨_, rfl⟩
 obtain ⟨fm, hfm⟩ : ∃ b, b = fewU m := ⟨_, rfl⟩
 rw [← hfl] at hkf hf
 rw [← hfm] at hkg hf
 have CF := Aside0.mk (fun W (h : Kd.C k41 W A l.length l) => grapevinelaw06_few.calls kf A c l fl W h HC.out hkf)
 have CG := Aside0.mk (fun W (h : Kd.C k41 W D m.length m) => grapevinelaw06_few.calls kg D c' m fm W h HD.out hkg)
 obtain ⟨hlf, hmf⟩ := Bool.and_eq_true_iff.1 hf
 subst hlf
 subst hmf
 have FL := Aside0.mk (fewU_of hfl.symm)
 have FM := Aside0.mk (fewU_of hfm.symm)
 obtain ⟨T, hT⟩ : ∃ T, T = printL canH l ⟨#[]⟩ := ⟨_, rfl⟩
 obtain ⟨V, hV⟩ : ∃ V, V = printL canH m ⟨#[]⟩ := ⟨_, rfl⟩
 have CP := Aside0.mk (show ∀ W, LaidU W → Kd.C k41 W A l.length l → Calls Tryd.prog 10 #[.slice A l.length c] W fun e w' => e = .returned (.string T) ∧ Below W.heap.size W w' from fun W h1 h2 => by
  rw [hT]; exact printU_calls A c l W h1 h2 HC.out FL.out.1 FL.out.2)
 have CR := Aside0.mk (show ∀ W, LaidU W → Kd.C k41 W D m.length m → Calls Tryd.prog 10 #[.slice D m.length c'] W fun e w' => e = .returned (.string V) ∧ Below W.heap.size W w' from fun W h1 h2 => by
  rw [hV]; exact printU_calls D c' m W h1 h2 HD.out FM.out.1 FM.out.2)
 rw [← hT, ← hV] at he
 have hl1 := print_all canH l _ (by rw [← hT]; exact he.1)
 have hm1 := print_all canH m _ (by rw [← hV]; exact he.2)
 have sT : T.size ≤ 240000 := by rw [hT]; exact print_le l hl1 FL.out.1 FL.out.2
 have sV : V.size ≤ 240000 := by rw [hV]; exact print_le m hm1 FM.out.1 FM.out.2
 have g1 : (T.toList == ([] : List UInt8)) = false := ne_nil he.1
 have g2 : (V.toList == ([] : List UInt8)) = false := ne_nil he.2
 have s1 : (T ++ V).size ≤ 1073741824 := by rw [ByteArray.size_append]; omega
 have s2 : (T ++ xnl ++ V).size ≤ 1073741824 := by rw [ByteArray.size_append, ByteArray.size_append]; show T.size + 2 + V.size ≤ _; omega
 have CQ := Aside0.mk (parseOk_calls (T ++ V) s1 (l ++ m) 0 0 (by rw [hT, hV]; exact parts_parse l m hl1 hm1))
 obtain ⟨N, hN⟩ : ∃ N, N = (toldL l).length := ⟨_, rfl⟩
 have hcnt : lines_Count.f T = some (N : Int) := by rw [hN, hT]; exact parts_count l hl1 (by rw [← hT]; exact sT)
 have CX := Aside0.mk (show ∀ W, LaidU W → Calls Tryd.prog 12 #[.string (T ++ ⟨#[120, 10]⟩ ++ V)] W fun e w' => ∃ B c, e = .returned (.tuple #[.slice B 0 c, .int .i64 ((N : Int) + 1), .int .i64 3]) ∧ Below W.heap.size W w' from fun W h =>
  (parseOk_calls (T ++ xnl ++ V) s2 [] ((N : Int) + 1) 3 (by rw [hT, hV, hN]; exact parts_wrong l m hl1 hm1) W h).mono fun e w' ⟨B, c, h1, _, _, h2⟩ => ⟨B, c, h1, h2⟩)
 have CN := Aside0.mk (fun W => lines_Count.calls T (N : Int) W hcnt)
 have hN2 : N ≤ 240000 := by
  have h1 := (told_count l hl1)
  have h2 : (bytesL (toldL l)).length = T.size := by
   have e1 : T.data.toList.length = T.size := rfl
   rw [hT, print_bytes canH l ⟨#[]⟩ hl1, ← hT] at e1
   have e0 : (⟨#[]⟩ : ByteArray).data.toList.length = 0 := rfl
   rw [List.length_append, e0] at e1
   omega
  omega
 have n1 : (9223372036854775807 < T.size + V.size) = False := eq_false (by omega)
 have n2 : (9223372036854775807 < T.size + 2) = False := eq_false (by omega)
 have n3 : (9223372036854775807 < T.size + 2 + V.size) = False := eq_false (by omega)
 have kx : IntKind.i64.wrap ((N : Int) + 1) = (N : Int) + 1 := IntWalk.i64_in _ (by omega)
 have hlen : (l ++ m).length = l.length + m.length := List.length_append
 obtain ⟨ks, hks⟩ := (SameH_ev (l ++ m) (by have := FL.out.1; have := FM.out.1; omega) (fun x hx => by
  rcases List.mem_append.1 hx with h | h
  ·have := (FL.out.2 x h).1.1; omega
  ·have := (FM.out.2 x h).1.1; omega)).rounds
 have CS := Aside0.mk (show ∀ B c6 E c8 W, Kd.C k41 W B (l ++ m).length (l ++ m) → (l ++ m).length ≤ c6 → Kd.C k41 W E (l ++ m).length (l ++ m) → (l ++ m).length ≤ c8 → Calls Tryd.prog 14 #[.slice B (l ++ m).length c6, .slice E (l ++ m).length c8] W fun e w' => e = .returned (.bool true) ∧ Below W.heap.size W w' from fun B c6 E c8 W h1 h2 h3 h4 => grapevineref05_Same.calls ks B c6 (l ++ m) E c8 (l ++ m) true W h1 h2 h3 h4 hks)
 have HSZ := Aside0.mk (show l.length ≤ 12 ∧ m.length ≤ 12 from ⟨FL.out.1, FM.out.1⟩)
 clear hL hr hc hr' hc' hn hm hkf hkg hfl hfm hT hV hf hl1 hm1 sT sV s1 s2 hN hcnt hN2 hks he FL FM
 go_enter Tryd.func6, Tryd.ntmps6
 go_upto_region 12 with (first
   | (go_at_call 8; (with_reducible refine CA.out.mono ?_); rintro e w1 ⟨rfl, hb⟩; have HB1 := Aside0.mk hb; have HR1 := Aside0.mk (Kd.C_below HR0.out hb); have HS1 := Aside0.mk (Kd.C_below HS0.out hb); have HL1 := Aside0.mk (HL.out.below HB1.out); clear hb)
   | (go_at_call 9; (with_reducible refine (CF.out _ HR1.out).mono ?_); rintro e w2 ⟨rfl, hb⟩; have HB2 := Aside0.mk (below_step HB1.out hb); have HR2 := Aside0.mk (Kd.C_below HR1.out hb); have HS2 := Aside0.mk (Kd.C_below HS1.out hb); have HL2 := Aside0.mk (HL.out.below HB2.out); clear hb)
   | (go_at_call 9; (with_reducible refine (CG.out _ HS2.out).mono ?_); rintro e w3 ⟨rfl, hb⟩; have HB3 := Aside0.mk (below_step HB2.out hb); have HR3 := Aside0.mk (Kd.C_below HR2.out hb); have HS3 := Aside0.mk (Kd.C_below HS2.out hb); have HL3 := Aside0.mk (HL.out.below HB3.out); clear hb)
   | (go_at_call 10; (with_reducible refine (CP.out _ HL3.out HR3.out).mono ?_); rintro e w4 ⟨rfl, hb⟩; have HB4 := Aside0.mk (below_step HB3.out hb); have HR4 := Aside0.mk (Kd.C_below HR3.out hb); have HS4 := Aside0.mk (Kd.C_below HS3.out hb); have HL4 := Aside0.mk (HL.out.below HB4.out); clear hb)
   | (go_at_call 10; (with_reducible refine (CR.out _ HL4.out HS4.out).mono ?_); rintro e w5 ⟨rfl, hb⟩; have HB5 := Aside0.mk (below_step HB4.out hb); have HR5 := Aside0.mk (Kd.C_below HR4.out hb); have HS5 := Aside0.mk (Kd.C_below HS4.out hb); have HL5 := Aside0.mk (HL.out.below HB5.out); clear hb)
   | (go_at_call 12; (with_reducible refine (CQ.out _ HL5.out).mono ?_); rintro e w6 ⟨B6, c6, rfl, hc6, hr6, hb⟩; have HC6 := Aside0.mk hc6; have HT6 := Aside0.mk hr6; clear hc6 hr6; have HB6 := Aside0.mk (below_step HB5.out hb); have HR6 := Aside0.mk (Kd.C_below HR5.out hb); have HS6 := Aside0.mk (Kd.C_below HS5.out hb); have HL6 := Aside0.mk (HL.out.below HB6.out); clear hb)
   | (go_at_call 12; (with_reducible refine (CX.out _ HL6.out).mono ?_); rintro e w7 ⟨B7, c7, rfl, hb⟩; have HT7 := Aside0.mk (Kd.C_below HT6.out hb); have HB7 := Aside0.mk (below_step HB6.out hb); have HR7 := Aside0.mk (Kd.C_below HR6.out hb); have HS7 := Aside0.mk (Kd.C_below HS6.out hb); have HL7 := Aside0.mk (HL.out.below HB7.out); clear hb))
 try simp only [List.length_append] at CS
 try simp only [List.length_append] at HC6
 try simp only [List.length_append] at HT7
 have FL7 := Aside0.mk (Kd.C_F k41_heap HR7.out)
 have FM7 := Aside0.mk (Kd.C_F k41_heap HS7.out)
 have FX7 := Aside0.mk (Kd.C_F k41_heap HT7.out)
 refine wp_region_list ?_
 dsimp only
 go_wp2_with (first
   | ((with_reducible refine gate_dst (N := 67) rfl ?_); (try (refine gate_guard (by rfl) ?_; dsimp only)); go_loud (refine Kd.N_lit k41 (w0 := w) w.heap.size 41 ?hg (N' := 67) ?hd (xs := ([] : List S41)) (inner := []) (ok := fun _ => True) (okp := fun _ => False) ?hr (Reps.none _ _) (fun _ h => h.elim) trivial HB7.out HB7.out.size (by simp) ?_; (case hd => rfl); (case hg => rfl); (case hr => first | (go_simp; done) | (go_simp; rfl)); intro v1 w8 ho hb hg hat; have HO8 := Aside0.mk ho; have HB8 := Aside0.mk hb; obtain ⟨b8, hb8, hlt8⟩ := hat; have HV8 := Aside0.mk hb8; have HW8 := Aside0.mk hlt8; have HG8 := Aside0.mk (show w7.heap.size ≤ w8.heap.size from hg.size); have FL8 := Aside0.mk (Kd.F_grown FL7.out hg (fun k _ h => by cases h)); have FM8 := Aside0.mk (Kd.F_grown FM7.out hg (fun k _ h => by cases h)); have FX8 := Aside0.mk (Kd.F_grown FX7.out hg (fun k _ h => by cases h)); clear ho hb hg hb8 hlt8))
   | ((with_reducible refine gate_builtin (b := .append) (xs := #[.tmp 67, .tmp 68]) rfl ?_); (try (refine gate_guard (by rfl) ?_; dsimp only)); at_builtin; go_loud (refine Kd.N_append_rows k41 (w0 := w) w.heap.size rfl (.tmp 67) (.tmp 68) 22 41 (.agg #[.int .i64 0, .int .i64 0, .int .i64 0, .int .i64 0, .slice none 0 0]) 56 rfl (by kernel_rfl) info41 rfl (by decide) (by decide) v1 [] l _ _ _ (fun _ => True) (fun k => k < w7.heap.size) rfl rfl HO8.out FL8.out (fun k hk => ⟨trivial, fun e => by rw [HV8.out] at e; have := HW8.out; injection e with e; omega⟩) (fun _ _ => trivial) HB8.out HB8.out.size (by have := HSZ.out; simp; omega) ?_; intro v9 w9 ho hb hg hat; rw [List.nil_append] at ho; have HO9 := Aside0.mk ho; have HB9 := Aside0.mk hb; have HG9 := Aside0.mk (show w7.heap.size ≤ w9.heap.size from Nat.le_trans HG8.out hg.size); obtain ⟨b9, hb9, hlt9⟩ : ∃ b, v9.ownBlock = some b ∧ w7.heap.size ≤ b := (hat.elim (fun h => ⟨_, h.trans HV8.out, HW8.out⟩) (fun ⟨b, h, h2⟩ => ⟨b, h, Nat.le_trans HG8.out h2⟩)); have HV9 := Aside0.mk hb9; have HW9 := Aside0.mk hlt9; have FL9 := Aside0.mk (Kd.F_grown FL8.out hg (fun k hk e => by rw [HV8.out] at e; have := HW8.out; injection e with e; omega)); have FM9 := Aside0.mk (Kd.F_grown FM8.out hg (fun k hk e => by rw [HV8.out] at e; have := HW8.out; injection e with e; omega)); have FX9 := Aside0.mk (Kd.F_grown FX8.out hg (fun k hk e => by rw [HV8.out] at e; have := HW8.out; injection e with e; omega)); clear ho hb hg hat hb9 hlt9))
   | ((with_reducible refine gate_builtin (b := .append) (xs := #[.tmp 69, .tmp 70]) rfl ?_); (try (refine gate_guard (by rfl) ?_; dsimp only)); at_builtin; go_loud (refine Kd.N_append_rows k41 (w0 := w) w.heap.size rfl (.tmp 69) (.tmp 70) 22 41 (.agg #[.int .i64 0, .int .i64 0, .int .i64 0, .int .i64 0, .slice none 0 0]) 56 rfl (by kernel_rfl) info41 rfl (by decide) (by decide) v9 l m _ _ _ (fun _ => True) (fun k => k < w7.heap.size) rfl rfl HO9.out FM9.out (fun k hk => ⟨trivial, fun e => by rw [HV9.out] at e; have := HW9.out; injection e with e; omega⟩) (fun _ _ => trivial) HB9.out HB9.out.size (by have := HSZ.out; simp; omega) ?_; intro v10 w10 ho hb hg hat; have HO10 := Aside0.mk ho; have HB10 := Aside0.mk hb; have HG10 := Aside0.mk (show w7.heap.size ≤ w10.heap.size from Nat.le_trans HG9.out hg.size); obtain ⟨b10, hb10, hlt10⟩ : ∃ b, v10.ownBlock = some b ∧ w7.heap.size ≤ b := (hat.elim (fun h => ⟨_, h.trans HV9.out, HW9.out⟩) (fun ⟨b, h, h2⟩ => ⟨b, h, Nat.le_trans HG9.out h2⟩)); have HV10 := Aside0.mk hb10; have HW10 := Aside0.mk hlt10; have FL10 := Aside0.mk (Kd.F_grown FL9.out hg (fun k hk e => by rw [HV9.out] at e; have := HW9.out; injection e with e; omega)); have FM10 := Aside0.mk (Kd.F_grown FM9.out hg (fun k hk e => by rw [HV9.out] at e; have := HW9.out; injection e with e; omega)); have FX10 := Aside0.mk (Kd.F_grown FX9.out hg (fun k hk e => by rw [HV9.out] at e; have := HW9.out; injection e with e; omega)); clear ho hb hg hat hb10 hlt10; obtain ⟨A9, c9, e9, hcc, hC9⟩ := Kd.N_reads HO10.out; clear HV10 HW10 HO10; rw [List.length_append] at e9; subst e9; simp only [List.length_append] at hcc hC9; have HC9 := Aside0.mk hC9; have HCC9 := Aside0.mk hcc; clear hcc hC9))
   | ((with_reducible refine gate_callee (f := 14) rfl ?_); (try (refine gate_guard (by rfl) ?_; dsimp only)); go_loud (refine goesL_ (some 72) rfl rfl Tryd.func14 (by kernel_rfl) rfl #[.slice B6 (l.length + m.length) c6, .slice A9 (l.length + m.length) c9] rfl (by (try simp only [List.map_toArray, List.map_cons, List.map_nil]); first | done | rfl) ?_; (with_reducible refine (CS.out _ _ _ _ _ (Kd.F_now FX10.out) HC6.out HC9.out HCC9.out).mono ?_); rintro e w11 ⟨rfl, hb⟩; refine ⟨_, rfl, ?_⟩; have HB11 := Aside0.mk (below_step HB10.out hb); clear hb))
   | ((with_reducible refine gate_callee (f := 15) rfl ?_); (try (refine gate_guard (by rfl) ?_; dsimp only)); go_loud (refine goesL_ (some 77) rfl rfl Tryd.func15 (by kernel_rfl) rfl #[.string T] rfl (by (try simp only [List.map_toArray, List.map_cons, List.map_nil]); first | done | rfl) ?_; (with_reducible refine (CN.out _).mono ?_); rintro e w12 ⟨rfl, hb⟩; refine ⟨_, rfl, ?_⟩; have HB12 := Aside0.mk (below_step HB11.out hb); clear hb)))
 go_ret
 exact ⟨rfl, HB12.out⟩
theorem parts_law (A : Option Addr) (c : Nat) (l : List S41) (D : Option Addr) (c' : Nat) (m : List S41) (w : World) (hL : LaidU w) (hr : Kd.C k41 w A l.length l) (hc : l.length ≤ c) (hr' : Kd.C k41 w D m.length m) (hc' : m.length ≤ c') (hn : l.length ≤ 4611686018427387904) (hm : m.length ≤ 4611686018427387904) :
  Calls Tryd.prog 6 #[.slice A l.length c, .slice D m.length c'] w fun e w' => e = .returned (.bool true) ∧ Below w.heap.size w w' := by
 rcases hf : (fewU l && fewU m) with _ | _
 ·exact parts_many A c l D c' m w hL hr hc hr' hc' hn hm hf
 ·by_cases he : (printL canH l ⟨#[]⟩).size = 0 ∨ (printL canH m ⟨#[]⟩).size = 0
  ·exact parts_none A c l D c' m w hL hr hc hr' hc' hn hm hf he
  ·exact parts_full A c l D c' m w hL hr hc hr' hc' hn hm hf ⟨fun h => he (.inl h), fun h => he (.inr h)⟩
end Go.Proofs.YtamojbfmphainaaDoor.Pr
-- shrunk
/-
Arguments that are slices of whatever kind, opened, with the sizes of all that is read behind them. General: no program in sight.
-/
namespace Go.Proofs.YtamojbfmphainaaDoor.Pr
open Go.RowKit Go.Proofs.YtamojbfmphainaaDoorW.PrintWords Go.Proofs.YtamojbfmphainaaDoorW.PrintLast Go.Proofs.YtamojbfmphainaaDoorW.PrintMore
open Go.ChangeShapes Go.WideShapes Go.Deep
def Rz (P : Program) {α : Type} (d : Kd α) (S : α → Prop) (t : TypeId) : Prop :=
 ∀ (H : Type) (enc : TypeId × Value → H) (w : World) (base : Nat) (spare : Nat → Bool) (held : Bool) (fuel : Nat) (cs : List Value) (x : DataW H × List MemPlace),
  DataW.trod enc P w base spare held fuel t cs = some x → (∀ n ∈ x.1.weights P t, n ≤ 140737488351232) → ∃ y, d.K w y cs ∧ S y
theorem Rz.int {P : Program} {t : TypeId} {k : IntKind} (hu : P.underlying t = some (.int k)) : Rz P (Kd.int k) (fun n => (Lit.int k n).wf = true) t := fun H enc w base spare held fuel cs x h _ => by
 obtain ⟨n, rfl, _, hw⟩ := DataW.trod_int hu h
 exact ⟨n, rfl, hw⟩
theorem Rz.string {P : Program} {t : TypeId} (hu : P.underlying t = some .string) : Rz P Kd.string (fun s => s.size ≤ 140737488351232) t := fun H enc w base spare held fuel cs x h hz => by
 obtain ⟨s, rfl, rfl, _⟩ := DataW.trod_string hu h
 refine ⟨s, rfl, ?_⟩
 have := hz s.data.toList.length (by simp [DataW.weights])
 simpa using this
theorem weights_mem_all {H : Type} {P : Program} {e : TypeId} : ∀ {l : List (DataW H)} {d : DataW H}, d ∈ l → ∀ n ∈ d.weights P e, n ∈ DataW.weightsAll P e l
 | c :: l, d, hd, n, hn => by
  simp only [DataW.weightsAll, List.mem_append]
  rcases List.mem_cons.1 hd with rfl | hd
  ·exact Or.inl hn
  ·exact Or.inr (weights_mem_all hd n hn)
theorem Rz.slice {P : Program} {α : Type} {d : Kd α} {S : α → Prop} {t e : TypeId} {B : Nat} (hu : P.underlying t = some (.slice e)) (hc : P.cellsOf e = d.sz) (hB : P.bytesOf e = B) (hd : Rz P d S e) :
  Rz P (Kd.slice e d) (fun xs => xs.length * B ≤ 140737488351232 ∧ ∀ y ∈ xs, S y) t := fun H enc w base spare held fuel cs x h hz => by
 rcases open_slice hu h with ⟨rfl, _⟩ | ⟨a, len, cap, m, n, D, Pl, rfl, hb, hl, hm, hmm, rfl, hx⟩
 ·exact ⟨[], ⟨none, 0, rfl, Nat.le_refl _, rfl, by simp, fun h0 => absurd h0 (Nat.lt_irrefl _)⟩, by simp, by simp⟩
 ·have hlm : len ≤ m := by rw [hmm]; split <;> omega
  have hw0 : len * B ≤ 140737488351232 := by
   have h1 := hz ((((List.range len).map D).length + ((List.range (m - len)).map fun j => D (len + j)).length) * P.bytesOf e) (by simp [DataW.weights, hu])
   rw [hB] at h1
   simp only [List.length_map, List.length_range] at h1
   exact Nat.le_trans (Nat.mul_le_mul_right _ (Nat.le_add_right _ _)) h1
  have hw1 : ∀ i, i < len → ∀ q ∈ (D i).weights P e, q ≤ 140737488351232 := fun i hi q hq => by
   refine hz q ?_
   simp only [DataW.weights, hu, List.mem_cons, List.mem_append]
   exact Or.inr (Or.inl (weights_mem_all (List.mem_map.2 ⟨i, List.mem_range.2 hi, rfl⟩) q hq))
  have key : ∀ k, k ≤ len → ∃ xs : List α, xs.length = k ∧ (∀ y ∈ xs, S y) ∧ ∀ j p, xs[j]? = some p → ∃ c, c.length = d.sz ∧ d.K w p c ∧ ∀ i u, c[i]? = some u → w.cell? (a.add (j * d.sz + i)) = some u := by
   intro k
   induction k with
   | zero => exact fun _ => ⟨[], rfl, by simp, fun j p hj => by simp at hj⟩
   | succ k ih =>
    intro hk
    obtain ⟨xs, hxl, hS, hxs⟩ := ih (by omega)
    obtain ⟨cs', h1, h2⟩ := hx k (by omega)
    obtain ⟨y, hy, hSy⟩ := hd H enc w base spare held n cs' _ h2 (hw1 k (by omega))
    obtain ⟨_, hlen, hcell⟩ := World.cells?_some h1
    refine ⟨xs ++ [y], by simp [hxl], fun z hz => ?_, fun j p hj => ?_⟩
    ·rcases List.mem_append.1 hz with hz | hz
     ·exact hS z hz
     ·rw [List.mem_singleton.1 hz]; exact hSy
    by_cases hjk : j < k
    ·rw [List.getElem?_append_left (by omega)] at hj
     exact hxs j p hj
    ·have hj' : j = k := by
      have : j < (xs ++ [y]).length := by
       rcases Nat.lt_or_ge j (xs ++ [y]).length with h | h
       ·exact h
       ·rw [List.getElem?_eq_none h] at hj; cases hj
      simp [hxl] at this; omega
     subst hj'
     rw [List.getElem?_append_right (by omega), hxl, Nat.sub_self] at hj
     obtain rfl := Option.some.inj hj
     refine ⟨cs', by rw [hlen, hc], hy, fun i u hi => ?_⟩
     have hlt : i < cs'.length := by
      rcases Nat.lt_or_ge i cs'.length with h | h
      ·exact h
      ·rw [List.getElem?_eq_none h] at hi; cases hi
     rw [← hc, ← Deep.add_add, hcell i (by omega), hi]
  obtain ⟨xs, rfl, hS, hxs⟩ := key len (Nat.le_refl _)
  exact ⟨xs, ⟨some a, cap, rfl, hl, rfl, by unfold maxLen at hm; omega, fun _ => ⟨a, rfl, hxs⟩⟩, hw0, hS⟩
inductive RzF (P : Program) : {α : Type} → Kd α → (α → Prop) → Nat → List Field → Prop
 | last {α : Type} {d : Kd α} {S : α → Prop} {f : Field} {off : Nat} : f.offset = off → P.cellsOf f.type = d.sz → Rz P d S f.type → RzF P d S off [f]
 | cons {α β : Type} {a : Kd α} {b : Kd β} {S : α → Prop} {U : β → Prop} {f : Field} {fs : List Field} {off : Nat} : f.offset = off → P.cellsOf f.type = a.sz → Rz P a S f.type → RzF P b U (off + a.sz) fs → RzF P (Kd.pair a b) (fun x => S x.1 ∧ U x.2) off (f :: fs)
theorem RzF.read {P : Program} {H : Type} {enc : TypeId × Value → H} {w : World} {base : Nat} {spare : Nat → Bool} {held : Bool} {cs : List Value} {α : Type} {d : Kd α} {S : α → Prop} {off : Nat} {fs : List Field} (h : RzF P d S off fs) :
  (∀ f ∈ fs, ∃ n x, DataW.trod enc P w base spare held n f.type ((cs.drop f.offset).take (P.cellsOf f.type)) = some x ∧ ∀ q ∈ x.1.weights P f.type, q ≤ 140737488351232) → ∃ y, d.K w y ((cs.drop off).take d.sz) ∧ S y := by
 induction h with
 | last ho hc hr =>
  intro hf
  obtain ⟨n, x, hx, hw⟩ := hf _ (List.mem_singleton.2 rfl)
  rw [ho, hc] at hx
  exact hr H enc w base spare held n _ x hx hw
 | @cons α β a b S U f fs off ho hc hr _ ih =>
  intro hf
  obtain ⟨n, x, hx, hw⟩ := hf _ List.mem_cons_self
  rw [ho, hc] at hx
  obtain ⟨y0, h0, s0⟩ := hr H enc w base spare held n _ x hx hw
  obtain ⟨y1, h1, s1⟩ := ih (fun g hg => hf g (List.mem_cons_of_mem _ hg))
  refine ⟨(y0, y1), ⟨_, _, ?_, h0, h1⟩, s0, s1⟩
  show List.take (a.sz + b.sz) _ = _
  rw [List.take_add, List.drop_drop]
theorem Rz.struct {P : Program} {α : Type} {d : Kd α} {S : α → Prop} {t : TypeId} {fs : Array Field} (hu : P.underlying t = some (.struct fs)) (hc : P.cellsOf t = d.sz) (hf : RzF P d S 0 fs.toList) : Rz P d S t := fun H enc w base spare held fuel cs x h hz => by
 obtain ⟨xs, n, _, rfl, hl, hlen, hx⟩ := DataW.trod_struct hu h
 have h2 := hf.read (enc := enc) (w := w) (base := base) (spare := spare) (held := held) (cs := cs) (fun f hm => by
  obtain ⟨i, hi, he⟩ := List.mem_iff_getElem.1 hm
  have h3 := hx i f (by rw [← he]; simp)
  have hi' : i < xs.length := by rw [hlen]; simpa using hi
  rw [List.getElem?_eq_getElem hi'] at h3
  refine ⟨n, _, h3, fun q hq => hz q ?_⟩
  simp only [DataW.weights, hu]
  refine DataW.weights_mem_each (j := i) (t := f.type) (d := xs[i].1) ?_ ?_ q hq
  ·rw [List.getElem?_map, List.getElem?_eq_getElem hi, he]; rfl
  ·rw [List.getElem?_map, List.getElem?_eq_getElem hi']; rfl)
 rw [List.drop_zero, List.take_of_length_le (by omega)] at h2
 exact h2
theorem Rz.iso {P : Program} {α β : Type} {d : Kd α} {S : α → Prop} {f : β → α} {t : TypeId} (h : Rz P d S t) (g : ∀ y, ∃ x, f x = y) : Rz P (Kd.iso d f) (fun x => S (f x)) t := fun H enc w base spare held fuel cs x hx hz => by
 obtain ⟨y, hy, hs⟩ := h H enc w base spare held fuel cs x hx hz
 obtain ⟨z, rfl⟩ := g y
 exact ⟨z, hy, hs⟩
theorem Rz.mono {P : Program} {α : Type} {d : Kd α} {S S' : α → Prop} {t : TypeId} (h : Rz P d S t) (g : ∀ x, S x → S' x) : Rz P d S' t := fun H enc w base spare held fuel cs x hx hz => by
 obtain ⟨y, hy, hs⟩ := h H enc w base spare held fuel cs x hx hz
 exact ⟨y, hy, g y hs⟩
theorem open_rowz {P : Program} {α : Type} {d : Kd α} {S : α → Prop} {t e : TypeId} {B : Nat} {H : Type} {enc : TypeId × Value → H} {w : World} {r : Reach} {b0 base : Nat} {spare : Nat → Bool} {held : Bool} {v : Value} {x : DataW H} {ps : List MemPlace} {ts : List TypeId} {ds : List (DataW H)} {j : Nat}
  (hsz : (DataW.weightsEach P ts ds).all (· ≤ reachBytes) = true) (ht : ts[j]? = some t) (hdj : ds[j]? = some x)
  (hu : P.underlying t = some (.slice e)) (hc : P.cellsOf e = d.sz) (hB : P.bytesOf e = B) (hd : Rz P d S e) (hval : Value.okWide P w r b0 t v) (h : DataW.Trod enc P w base spare held t v x ps) :
  ∃ (A : Option Addr) (c : Nat) (xs : List α), v = .slice A xs.length c ∧ xs.length ≤ c ∧ d.C w A xs.length xs ∧ xs.length * B ≤ 140737488351232 ∧ ∀ y ∈ xs, S y := by
 obtain ⟨a, len, cap, rfl⟩ := okWide_slice hu hval
 obtain ⟨fuel, hf⟩ := h
 obtain ⟨xs, ⟨A, c, hcs, hl, hC⟩, hb, hS⟩ := Rz.slice hu hc hB hd H enc w base spare held fuel _ _ hf (fun n hn => by
  have := List.all_eq_true.1 hsz _ (DataW.weights_mem_each ht hdj n hn)
  have h2 : n ≤ reachBytes := by simpa using this
  exact h2)
 simp [Value.cells] at hcs
 obtain ⟨rfl, rfl, rfl⟩ := hcs
 exact ⟨_, _, xs, rfl, hl, hC, hb, hS⟩
end Go.Proofs.YtamojbfmphainaaDoor.Pr
-- shrunk
/-
The kinds of the lower layers' arguments, with sizes: lists of texts, edits.
-/
namespace Go.Proofs.YtamojbfmphainaaDoor.Pr
open Go.RowKit Go.Proofs.YtamojbfmphainaaDoorW.PrintWords Go.Proofs.YtamojbfmphainaaDoorW.PrintLast Go.Proofs.YtamojbfmphainaaDoorW.PrintMore
theorem rz_string : Rz Tryd.prog Kd.string (fun s => s.size ≤ 140737488351232) 9 := Rz.string (by kernel_rfl)
theorem rz_strings : Rz Tryd.prog (Kd.slice 9 Kd.string) (fun xs => xs.length * 16 ≤ 140737488351232 ∧ ∀ y ∈ xs, y.size ≤ 140737488351232) 33 := Rz.slice (e := 9) (by kernel_rfl) (by kernel_rfl) (by kernel_rfl) rz_string
theorem rz_int : Rz Tryd.prog (Kd.int .i64) (fun n => (Lit.int .i64 n).wf = true) 3 := Rz.int (by kernel_rfl)
end Go.Proofs.YtamojbfmphainaaDoor.Pr
-- shrunk
/-
The kinds of layer 7's arguments, with sizes: hunks.
-/
namespace Go.Proofs.YtamojbfmphainaaDoor.Pr
open Go.RowKit Go.Proofs.YtamojbfmphainaaDoorW.PrintWords Go.Proofs.YtamojbfmphainaaDoorW.PrintLast Go.Proofs.YtamojbfmphainaaDoorW.PrintMore
theorem rz_hunk : Rz Tryd.prog k41 (fun h => ∀ s ∈ h.f4, s.size ≤ 140737488351232) 41 := by
 refine Rz.mono (Rz.iso (Rz.struct Tryd.underlying41 (by kernel_rfl) (.cons rfl (by kernel_rfl) rz_int (.cons rfl (by kernel_rfl) rz_int (.cons rfl (by kernel_rfl) rz_int (.cons rfl (by kernel_rfl) rz_int (.last rfl (by kernel_rfl) rz_strings)))))) (fun y => ⟨⟨y.1, y.2.1, y.2.2.1, y.2.2.2.1, y.2.2.2.2⟩, rfl⟩)) ?_
 intro x h
 exact h.2.2.2.2.2
end Go.Proofs.YtamojbfmphainaaDoor.Pr
-- shrunk
