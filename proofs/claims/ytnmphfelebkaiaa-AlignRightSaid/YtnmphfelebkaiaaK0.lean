/-
Several plain texts in one.
-/
import Derived.Test.YtnmphfelebkaiaaProg
import Derived.Below
import Derived.Deep.Draws
import Derived.Deep.AppendLies
import Derived.Maps.AppendAt
import Derived.OwnWalk
import Derived.Laws.BytesArg
import Derived.Laws.MakeOwn
import Derived.Laws.OwnMore
import Derived.Deep.OwnRows
import Derived.Tactics
import Derived.Lib.ConvBytes
import Derived.Laws.Slices
import Derived.WalkKit
import Derived.KernelRfl
import Derived.RowKit3
import Derived.Deep.LoopGhost
import Derived.Deep.QuietTactic
import Derived.BigQuiet
import Derived.WideLaws
import Derived.Deep.DeepCutAuto
import Derived.Deep.CutBlock
import Derived.Deep.RegionHeld3
import Derived.Laws.Rows
import Derived.Lib.AppendStr
import Derived.ArgAppend
import Derived.Laws.IdiomCopy
import Derived.OrdersHeld
import Derived.Laws.BitsLemmas
import Derived.RowKit
import Derived.Laws.Runes
import Derived.Test.YtnmphfelebkaiaaWWords
import Derived.Test.YtnmphfelebkaiaaWLast
import Derived.Test.YtnmphfelebkaiaaWTab
import Derived.Test.YtnmphfelebkaiaaWFour
import Derived.Test.YtnmphfelebkaiaaWQPut
import Derived.Test.YtnmphfelebkaiaaWApart
import Derived.Test.YtnmphfelebkaiaaWArr
import Derived.Test.YtnmphfelebkaiaaWZeros
import Derived.Test.YtnmphfelebkaiaaWFoot
import Derived.Test.YtnmphfelebkaiaaWKept
import Derived.Test.YtnmphfelebkaiaaWShare
import Derived.Test.YtnmphfelebkaiaaWN
import Derived.Test.YtnmphfelebkaiaaWFootNe
import Derived.Test.YtnmphfelebkaiaaWAt
import Derived.Test.YtnmphfelebkaiaaWEqStruct
import Derived.Test.YtnmphfelebkaiaaWRepsOne
import Derived.Test.YtnmphfelebkaiaaWInv
import Derived.Test.YtnmphfelebkaiaaWInvWords
import Derived.Test.YtnmphfelebkaiaaWGuard
import Derived.Test.YtnmphfelebkaiaaWNEv
import Derived.Test.YtnmphfelebkaiaaWMore
import Derived.RangeFuncBox
import Derived.OrdersIn
import Derived.RangeFuncCalls
import Derived.RangeFuncLeaves
import Derived.Shelf.Abstract
import Derived.OwnWalkIn
import Derived.TacticsInMore
import Derived.LoopNIn
import Derived.LoopIn
import Derived.WalkSpells
-- written by a program of this session's (a turned copy of the kit's printer); Lean checks it
namespace Go.Proofs.Ytnmphfelebkaiaa.Pr
open Go.RowKit Go.Proofs.YtnmphfelebkaiaaW.PrintWords Go.Proofs.YtnmphfelebkaiaaW.PrintLast Go.Proofs.YtnmphfelebkaiaaW.PrintMore
attribute [local go_sem] max2_int min2_int max_two min_two max_three min_three max_four min_four   -- for this text's walks alone
set_option linter.unusedVariables false
set_option linter.unusedSimpArgs false



def errW : Option Int → Value
 | none => .nilIface
 | some c => .iface 0 (.int .i64 c)
theorem errW_none : errW none = .nilIface := rfl
theorem errW_some (c : Int) : errW (some c) = .iface 0 (.int .i64 c) := rfl

theorem info32 : (Try.prog.info? 32).map (fun i => (i.zero, i.size, i.bytes)) = some (some (.agg #[(.int .i64 0), (.int .i64 0), (.int .i64 0), (.int .i64 0), (.int .i64 0), (.int .i64 0), (.int .i64 0)]), 7, 56) := by kernel_rfl
structure S52 where
 f0 : Int
 f1 : Int
 f2 : (List ByteArray)
def z52 : S52 := ⟨(0 : Int), (0 : Int), ([] : List ByteArray)⟩
def k52 : Kd S52 := Kd.iso (Kd.pair (Kd.int .i64) (Kd.pair (Kd.int .i64) (Kd.slice 9 Kd.string))) (fun x : S52 => (x.f0, x.f1, x.f2))
theorem k52_open {w : World} {x : S52} {cs : List Value} (h : k52.K w x cs) : ∃ A2 c2, cs = [.int .i64 x.f0, .int .i64 x.f1, .slice A2 x.f2.length c2] ∧ x.f2.length ≤ c2 ∧ Kd.string.C w A2 x.f2.length x.f2 := by
 obtain ⟨_, _, rfl, rfl, ⟨_, _, rfl, rfl, ⟨A2, c2, rfl, l2, g2⟩⟩⟩ := h
 exact ⟨A2, c2, rfl, l2, g2⟩
theorem k52_openM {w : World} {base : Nat} {ok : Nat → Prop} {x : S52} {cs : List Value} (h : k52.M w base ok x cs) : ∃ v2, cs = [.int .i64 x.f0, .int .i64 x.f1, v2] ∧ Kd.string.R 9 w base ok v2 x.f2 := by
 obtain ⟨_, _, rfl, rfl, ⟨_, _, rfl, rfl, ⟨v2, rfl, g2⟩⟩⟩ := h
 exact ⟨v2, rfl, g2⟩
theorem k52_mkM (w : World) (base : Nat) (ok : Nat → Prop) (x : S52) {v2 : Value} (g2 : Kd.string.R 9 w base ok v2 x.f2) : k52.M w base ok x [.int .i64 x.f0, .int .i64 x.f1, v2] := ⟨[.int .i64 x.f0], [.int .i64 x.f1, v2], rfl, rfl, ⟨[.int .i64 x.f1], [v2], rfl, rfl, ⟨v2, rfl, g2⟩⟩⟩
def rd_T52 (xs : List S52) (i : Int) : S52 := xs.getD i.toNat z52
theorem at_T52 {w : World} {A : Option Addr} {n : Nat} {xs : List S52} (h : Kd.C k52 w A n xs) (i : Int) (h0 : 0 ≤ i) (h1 : i < n) : ∃ ad A2 c2, A = some ad ∧ w.cell? (ad.add (i.toNat * 3)) = some (.int .i64 (rd_T52 xs i).f0) ∧ w.cell? ⟨(ad.add (i.toNat * 3)).block, (ad.add (i.toNat * 3)).off + 1, none⟩ = some (.int .i64 (rd_T52 xs i).f1) ∧ w.cell? ⟨(ad.add (i.toNat * 3)).block, (ad.add (i.toNat * 3)).off + 2, none⟩ = some (.slice A2 (rd_T52 xs i).f2.length c2) ∧ (rd_T52 xs i).f2.length ≤ c2 ∧ Kd.string.C w A2 (rd_T52 xs i).f2.length (rd_T52 xs i).f2 := by
 obtain ⟨ad, c, e, _, hK, hc0⟩ := Kd.C_get h z52 i h0 h1
 have hc : ∀ j u, c[j]? = some u → w.cell? (ad.add (i.toNat * 3 + j)) = some u := hc0
 obtain ⟨A2, c2, rfl, l2, g2⟩ := k52_open hK
 exact ⟨ad, A2, c2, e, hc 0 _ rfl, by rw [← add_field _ _ 1 (by omega)]; exact hc 1 _ rfl, by rw [← add_field _ _ 2 (by omega)]; exact hc 2 _ rfl, l2, g2⟩

structure S30 where
 f0 : Int
 f1 : Int
def z30 : S30 := ⟨(0 : Int), (0 : Int)⟩
def k30 : Kd S30 := Kd.iso (Kd.pair (Kd.int .i64) (Kd.int .i64)) (fun x : S30 => (x.f0, x.f1))
theorem k30_open {w : World} {x : S30} {cs : List Value} (h : k30.K w x cs) : cs = [.int .i64 x.f0, .int .i64 x.f1] := by
 obtain ⟨_, _, rfl, rfl, rfl⟩ := h
 exact rfl
theorem k30_openM {w : World} {base : Nat} {ok : Nat → Prop} {x : S30} {cs : List Value} (h : k30.M w base ok x cs) : cs = [.int .i64 x.f0, .int .i64 x.f1] := by
 obtain ⟨_, _, rfl, rfl, rfl⟩ := h
 exact rfl
theorem k30_mkM (w : World) (base : Nat) (ok : Nat → Prop) (x : S30)  : k30.M w base ok x [.int .i64 x.f0, .int .i64 x.f1] := ⟨[.int .i64 x.f0], [.int .i64 x.f1], rfl, rfl, rfl⟩
structure S32 where
 f0 : Int
 f1 : S30
 f2 : S30
 f3 : S30
def z32 : S32 := ⟨(0 : Int), z30, z30, z30⟩
def k32 : Kd S32 := Kd.iso (Kd.pair (Kd.int .i64) (Kd.pair k30 (Kd.pair k30 k30))) (fun x : S32 => (x.f0, x.f1, x.f2, x.f3))
theorem k32_open {w : World} {x : S32} {cs : List Value} (h : k32.K w x cs) : cs = [.int .i64 x.f0, .int .i64 x.f1.f0, .int .i64 x.f1.f1, .int .i64 x.f2.f0, .int .i64 x.f2.f1, .int .i64 x.f3.f0, .int .i64 x.f3.f1] := by
 obtain ⟨_, _, rfl, rfl, ⟨_, _, rfl, s1, ⟨_, _, rfl, s3, s5⟩⟩⟩ := h
 obtain rfl := k30_open s1
 obtain rfl := k30_open s3
 obtain rfl := k30_open s5
 exact rfl
theorem k32_openM {w : World} {base : Nat} {ok : Nat → Prop} {x : S32} {cs : List Value} (h : k32.M w base ok x cs) : cs = [.int .i64 x.f0, .int .i64 x.f1.f0, .int .i64 x.f1.f1, .int .i64 x.f2.f0, .int .i64 x.f2.f1, .int .i64 x.f3.f0, .int .i64 x.f3.f1] := by
 obtain ⟨_, _, rfl, rfl, ⟨_, _, rfl, s1, ⟨_, _, rfl, s3, s5⟩⟩⟩ := h
 obtain rfl := k30_openM s1
 obtain rfl := k30_openM s3
 obtain rfl := k30_openM s5
 exact rfl
theorem k32_mkM (w : World) (base : Nat) (ok : Nat → Prop) (x : S32)  : k32.M w base ok x [.int .i64 x.f0, .int .i64 x.f1.f0, .int .i64 x.f1.f1, .int .i64 x.f2.f0, .int .i64 x.f2.f1, .int .i64 x.f3.f0, .int .i64 x.f3.f1] := ⟨[.int .i64 x.f0], [.int .i64 x.f1.f0, .int .i64 x.f1.f1, .int .i64 x.f2.f0, .int .i64 x.f2.f1, .int .i64 x.f3.f0, .int .i64 x.f3.f1], rfl, rfl, ⟨[.int .i64 x.f1.f0, .int .i64 x.f1.f1], [.int .i64 x.f2.f0, .int .i64 x.f2.f1, .int .i64 x.f3.f0, .int .i64 x.f3.f1], rfl, (k30_mkM w base ok x.f1 ), ⟨[.int .i64 x.f2.f0, .int .i64 x.f2.f1], [.int .i64 x.f3.f0, .int .i64 x.f3.f1], rfl, (k30_mkM w base ok x.f2 ), (k30_mkM w base ok x.f3 )⟩⟩⟩
def rd_T32 (xs : List S32) (i : Int) : S32 := xs.getD i.toNat z32
theorem at_T32 {w : World} {A : Option Addr} {n : Nat} {xs : List S32} (h : Kd.C k32 w A n xs) (i : Int) (h0 : 0 ≤ i) (h1 : i < n) : ∃ ad , A = some ad ∧ w.cell? (ad.add (i.toNat * 7)) = some (.int .i64 (rd_T32 xs i).f0) ∧ w.cell? ⟨(ad.add (i.toNat * 7)).block, (ad.add (i.toNat * 7)).off + 1, none⟩ = some (.int .i64 (rd_T32 xs i).f1.f0) ∧ w.cell? ⟨(ad.add (i.toNat * 7)).block, (ad.add (i.toNat * 7)).off + 2, none⟩ = some (.int .i64 (rd_T32 xs i).f1.f1) ∧ w.cell? ⟨(ad.add (i.toNat * 7)).block, (ad.add (i.toNat * 7)).off + 3, none⟩ = some (.int .i64 (rd_T32 xs i).f2.f0) ∧ w.cell? ⟨(ad.add (i.toNat * 7)).block, (ad.add (i.toNat * 7)).off + 4, none⟩ = some (.int .i64 (rd_T32 xs i).f2.f1) ∧ w.cell? ⟨(ad.add (i.toNat * 7)).block, (ad.add (i.toNat * 7)).off + 5, none⟩ = some (.int .i64 (rd_T32 xs i).f3.f0) ∧ w.cell? ⟨(ad.add (i.toNat * 7)).block, (ad.add (i.toNat * 7)).off + 6, none⟩ = some (.int .i64 (rd_T32 xs i).f3.f1) := by
 obtain ⟨ad, c, e, _, hK, hc0⟩ := Kd.C_get h z32 i h0 h1
 have hc : ∀ j u, c[j]? = some u → w.cell? (ad.add (i.toNat * 7 + j)) = some u := hc0
 obtain rfl := k32_open hK
 exact ⟨ad, e, hc 0 _ rfl, by rw [← add_field _ _ 1 (by omega)]; exact hc 1 _ rfl, by rw [← add_field _ _ 2 (by omega)]; exact hc 2 _ rfl, by rw [← add_field _ _ 3 (by omega)]; exact hc 3 _ rfl, by rw [← add_field _ _ 4 (by omega)]; exact hc 4 _ rfl, by rw [← add_field _ _ 5 (by omega)]; exact hc 5 _ rfl, by rw [← add_field _ _ 6 (by omega)]; exact hc 6 _ rfl⟩

end Go.Proofs.Ytnmphfelebkaiaa.Pr
-- shrunk
/-
A range over an iterator that keeps its state in one captured cell: the law of the caller, for a body that never leaves the loop and leaves that cell alone.
-/
namespace Go.Proofs.Ytnmphfelebkaiaa.Pr
open Go.RowKit Go.Proofs.YtnmphfelebkaiaaW.PrintWords Go.Proofs.YtnmphfelebkaiaaW.PrintLast
set_option linter.unusedVariables false
set_option linter.unusedSimpArgs false
variable {F : Fence} {n : Nat} {P : Program}
def FreeC {β : Type} (B : Nat) (J : β → World → Prop) : Prop :=
 ∀ s W W' row, J s W → W.grownBy W' row → (∀ r, row = some r → B ≤ r ∧ ∃ cs t, W.heap[r]? = some (.cells cs t (0, 0)) ∧ (t = 43 ∨ t = 46)) → J s W'
def SeqOwn {α : Type} (F : Fence) (n : Nat) (P : Program) (g : Nat) (lb : Array Value) (encs : α → Array Value) (B : Nat) (xs : List α) (st E : World → Prop) : Prop :=
 ∀ (l : Nat) (J : List α → World → Prop) (W : World), st W → FreeC B J → (∀ pre W1, J pre W1 → E W1) →
  (∀ pre x rest W1, J pre W1 → xs = pre ++ x :: rest → YieldAt F (n - 1) P l (encs x) W1 fun e W' => e = .returned (.bool true) ∧ J (pre ++ [x]) W' ∧ W'.heap[B]? = W1.heap[B]?) →
  J [] W →
  CallsIn F n P g (#[.func (.yield l) #[] #[]] ++ lb) W fun e W' => (∃ v, e = .returned v) ∧ J xs W'
theorem keepsObj {W W' : World} {row : Option Nat} {l : Nat} {o : Obj} (h : W.heap[l]? = some o) (hg : W.grownBy W' row) (hr : ∀ r, row = some r → ∃ cs t, W.heap[r]? = some (.cells cs t (0, 0)) ∧ (t = 43 ∨ t = 46))
  (ho : ∀ cs t, o ≠ .cells cs t (0, 0)) : W'.heap[l]? = some o := by
 refine (hg.block l (Array.getElem?_eq_some_iff.1 h).1 (fun e => ?_)).trans h
 obtain ⟨cs, t, hc, _⟩ := hr l e.symm
 rw [h] at hc
 injection hc with hc
 exact ho _ _ hc
theorem wpIn_rangeFunc_ownC {α : Type} {g : Operand} {ps : Array Tmp} {assign body : Code} {Q : Exit → Act → World → Prop} {a : Act} {w : World}
  (hro : F.round = none) (h1 : 1 ≤ n) {gf : Nat} {lb : Array Value} (hg : a.eval g = .func (.func gf) #[] lb) (hFg : F.fn gf) (eg : ∀ args w, (callFunc gf args).run P w = .ok (.enter gf args) w)
  {encs : α → Array Value} {B : Nat} {xs : List α} {st E : World → Prop} (hseq : SeqOwn F (n - 1) P gf lb encs B xs st E) (hB : B < w.heap.size) (hst : ∀ W, W.heap[B]? = w.heap[B]? → st W) (hps : ∀ x, (encs x).size = ps.size)
  (I : List α → World → Prop) (hI : OwnFrom w.heap.size I) (hIC : FreeC B I) (hIE : ∀ pre W, I pre W → E W) (h0 : I [] w) (lay : α → Obj) (a₁ : α → Nat → Act)
  (hassign : ∀ (l : Nat) (x : α) (W : World) (K : Act → World → Prop), K (a₁ x W.heap.size) (W.alloc (lay x)) →
   assign.wpIn (F.inRound l) (n - 1 - 1) P (Exit.then K (fun _ _ _ => False)) { tmps := (ps.zip (encs x)).foldl (fun t (p, v) => t.setIfInBounds p v) a.tmps, defers := [] } W)
  (hbody : ∀ (l : Nat) (pre : List α) (x : α) (rest : List α) (C : Nat) (W : World), I pre W → xs = pre ++ x :: rest → W.heap[C]? = some (lay x) → body.wpIn (F.inRound l) (n - 1 - 1) P (ownPostK (fun W W' => W'.heap[B]? = W.heap[B]?) I (fun _ _ _ => False) (pre ++ [x]) W) (a₁ x C) W)
  (hdone : ∀ (D : Nat) (W : World), w.heap.size ≤ D → I xs W → W.heap[D]? = some (.deferred (some [])) → Q .normal { a with defers := { target := .collected D, args := #[] } :: a.defers } W) :
  (Code.rangeFunc g ps assign body).wpIn F n P Q a w := by
 refine wpIn_rangeFunc ?_
 intro fn hfn
 rw [hro]
 obtain ⟨rec, hrec⟩ : ∃ rec : LoopState → Option Code → Loop, rec = fun st pe => { state := st, pending := pe, fn, tmps := a.tmps, params := ps, assign, body, defers := w.heap.size } := ⟨_, rfl⟩
 obtain ⟨W1, hW1⟩ : ∃ W1, (w.alloc (.deferred (some []))).alloc (.loop (rec .ready none)) = W1 := ⟨_, rfl⟩
 have hL1 : W1.heap[w.heap.size + 1]? = some (.loop (rec .ready none)) := by
  rw [← hW1]; have := World.alloc_heap_new (w.alloc (.deferred (some []))) (.loop (rec .ready none)); rwa [World.size_alloc] at this
 have hK1 : W1.heap[w.heap.size]? = some (.deferred (some [])) := by
  rw [← hW1]; exact (Below.heap_alloc _ _ _ (by simp)).trans (World.alloc_heap_new w _)
 have hI1 : I [] W1 := by rw [← hW1]; exact hI.alloc _ (hI.alloc _ h0)
 have hB1 : W1.heap[B]? = w.heap[B]? := by
  rw [← hW1, Below.heap_alloc _ _ _ (by simp; omega), Below.heap_alloc _ _ _ hB]
 refine ⟨w.heap.size + 1, [{ target := .collected w.heap.size, args := #[] }], W1, { target := .fn (.func gf) lb, args := #[.func (.yield (w.heap.size + 1)) #[] #[]] }, W1, gf,
  #[.func (.yield (w.heap.size + 1)) #[] #[]] ++ lb, W1, ?_, ?_, ?_, ?_, fun _ => h1, ?_⟩
 ·rw [← hW1, hrec]; exact run_enterLoop_outer _ _ _ _ _
 ·simp only [resolve, hg]
  simp [go_sem]
 ·intro f' hf'; simp [Target.leads] at hf'; subst hf'; exact hFg
 ·simp [invoke, go_sem, eg]
 ·refine (hseq (w.heap.size + 1)
   (fun pre W => I pre W ∧ W.heap[w.heap.size + 1]? = some (.loop (rec .ready none)) ∧ W.heap[w.heap.size]? = some (.deferred (some [])))
   W1 (hst _ hB1)
   (fun pre A A' row hs hg hr => ⟨hIC _ _ _ _ hs.1 hg hr, keepsObj hs.2.1 hg (fun r e => (hr r e).2) (fun _ _ h => by cases h), keepsObj hs.2.2 hg (fun r e => (hr r e).2) (fun _ _ h => by cases h)⟩)
   (fun pre A hs => hIE _ _ hs.1)
   ?_ ⟨hI1, hL1, hK1⟩).mono ?_
  ·rintro pre x rest W ⟨hi, hl, hk⟩ hlen
   have hlt : w.heap.size + 1 < W.heap.size := (Array.getElem?_eq_some_iff.1 hl).1
   have hltB : B < W.heap.size := by omega
   obtain ⟨WA, hWA⟩ : ∃ WA, WA = W.alloc (lay x) := ⟨_, rfl⟩
   have hiA : I pre WA := by rw [hWA]; exact hI.alloc _ hi
   have hlA : WA.heap[w.heap.size + 1]? = some (.loop (rec .ready none)) := by rw [hWA, Below.heap_alloc _ _ _ hlt]; exact hl
   have hkA : WA.heap[w.heap.size]? = some (.deferred (some [])) := by rw [hWA, Below.heap_alloc _ _ _ (by omega)]; exact hk
   have hBA : WA.heap[B]? = W.heap[B]? := by rw [hWA, Below.heap_alloc _ _ _ hltB]
   have hCA : WA.heap[W.heap.size]? = some (lay x) := by rw [hWA]; exact World.alloc_heap_new W _
   have hne : w.heap.size + 1 ≠ W.heap.size := by omega
   have hy := run_yield (P := P) (args := encs x) hl (by rw [hrec]; exact hps x)
   rw [hrec] at hy
   refine ⟨fn, _, assign, body, hy, roundIn_of_wpIn hfn (hassign _ x W _ ?_)⟩
   rw [← hWA]
   refine ⟨_, run_beginRound hlA (by rw [hrec]), ?_⟩
   have hl2 : (WA.putObj (w.heap.size + 1) (.loop { rec .ready none with state := .busy })).heap[w.heap.size + 1]? = some (.loop { rec .ready none with state := .busy }) := World.putObj_heap_same (Array.getElem?_eq_some_iff.1 hlA).1
   have hk2 : (WA.putObj (w.heap.size + 1) (.loop { rec .ready none with state := .busy })).heap[w.heap.size]? = some (.deferred (some [])) := (World.putObj_heap_other (by omega)).trans hkA
   refine wpIn_mono (hbody _ pre x rest W.heap.size _ (hI.putObj _ hiA (by omega) hlA rfl) hlen ((World.putObj_heap_other (by omega)).trans hCA)) ?_
   have fin : ∀ (W3 : World), KeepsOthers (WA.putObj (w.heap.size + 1) (.loop { rec .ready none with state := .busy })) W3 →
     (Instr.endRound (w.heap.size + 1) none).run P W3 = .ok (.bool true) (W3.putObj (w.heap.size + 1) (.loop (rec .ready none))) ∧
     W3.heap[w.heap.size + 1]? = some (.loop { rec .ready none with state := .busy }) ∧
     (W3.putObj (w.heap.size + 1) (.loop (rec .ready none))).heap[w.heap.size + 1]? = some (.loop (rec .ready none)) ∧
     (W3.putObj (w.heap.size + 1) (.loop (rec .ready none))).heap[w.heap.size]? = some (.deferred (some [])) := fun W3 hk3 => by
    have hl3 := hk3.same _ _ hl2 rfl
    have := run_endRound (P := P) none hl3
    rw [hrec] at this ⊢
    exact ⟨this, by rw [hrec] at hl3; exact hl3, World.putObj_heap_same (Array.getElem?_eq_some_iff.1 hl3).1, (World.putObj_heap_other (by omega)).trans (hk3.same _ _ hk2 rfl)⟩
   rintro e a3 W3 hp
   cases e with
   | normal =>
    obtain ⟨hk3, hkp3, hi3⟩ := hp
    obtain ⟨hr, hl3, hl4, hk4⟩ := fin W3 hk3
    exact ⟨_, _, hr, rfl, ⟨hI.putObj _ hi3 (by omega) hl3 rfl, hl4, hk4⟩, (World.putObj_heap_other (by omega)).trans (hkp3.trans ((World.putObj_heap_other (by omega)).trans hBA))⟩
   | ret => exact hp.2.elim
   | exit id => exact hp.2.elim
   | goto t => exact hp.2.elim
   | panic ch => exact hp.elim
   | outgrown => exact hp.elim
  ·rintro e W2 ⟨⟨v, rfl⟩, hi, hl, hk⟩
   exact ⟨none, _, by have := run_endLoop (P := P) hl (by rw [hrec]; simp); rw [hrec] at this; exact this, hdone _ _ (Nat.le_refl _) (hI.putObj _ hi (by omega) hl rfl) ((World.putObj_heap_other (by omega)).trans hk)⟩
theorem grown_set (W : World) (b j : Nat) (v : Value) : W.grownBy (W.setCell ⟨b, j, none⟩ v) (some b) :=
 ⟨rfl, rfl, rfl, by simp [World.setCell], fun k _ hk => Below.heap_setCell _ _ _ _ (fun e => hk (by rw [e]))⟩
theorem grown_trans {W W1 W2 : World} {row : Option Nat} (h : W.grownBy W1 row) (k : W1.grownBy W2 row) : W.grownBy W2 row :=
 ⟨k.os.trans h.os, k.tape.trans h.tape, k.output.trans h.output, Nat.le_trans h.size k.size, fun i hi hn => (k.block i (Nat.lt_of_lt_of_le hi h.size) hn).trans (h.block i hi hn)⟩
theorem wpOpIn_of_wpOp {P : Program} {ops : Array Oper} {Q : Exit → Act → World → Prop} {l n i : Nat} {K K' : Act → World → Prop} {a : Act} {w : World} (hQ : ¬ LetsOut Q) (hd : ∀ o ∈ ops, ∀ c, o.op ≠ .defer c) (hK : ∀ a w, K a w → K' a w)
  (h : wpOp P ops Q i K a w) : wpOpIn (Fence.wide.inRound l) n P ops Q i K' a w := by
 unfold wpOp at h
 unfold wpOpIn
 cases ho : ops[i]? with
 | none => rw [ho] at h; exact hK _ _ h
 | some o =>
  rw [ho] at h
  simp only at h ⊢
  have hnd := hd o (by obtain ⟨hi, e⟩ := Array.getElem?_eq_some_iff.1 ho; exact e ▸ Array.getElem_mem hi)
  by_cases hw : Region.wanted o (yielded ops a.tmps) = true
  ·rw [if_pos hw] at h ⊢
   have h1 : o.wp P a w K Q := by
    rcases h with h | ⟨_, h⟩
    ·exact h
    ·exact absurd h hQ
   unfold Oper.wp at h1
   refine ⟨fun _ _ => trivial, ?_⟩
   rw [Oper.semAt_eq _ _ _ hnd]
   generalize (execOp a.eval o).run P w = r at *
   cases r with
   | ok x w' =>
    cases x <;> simp only [Oper.upon, Oper.uponIn] at h1 ⊢ <;> first | exact hK _ _ h1 | skip
    ·exact ⟨by simp [Fence.inRound, Fence.wide], CallsIn.inRound l ((callsIn_wide.2 h1).mono (fun e w'' he => by cases e <;> first | exact hK _ _ he | exact he))⟩
    ·refine ⟨by simp [Fence.inRound, Fence.wide], ?_⟩
     exact fun c cs _ => let ⟨v, w2, r, s⟩ := h1 c cs; ⟨v, w2, hK _ _ r, stepsIn_wide.2 s⟩
   | halt x w' => cases x <;> simp only [Oper.upon, Oper.uponIn] at h1 ⊢ <;> exact h1
  ·rw [if_neg hw] at h ⊢
   exact ⟨fun _ _ => trivial, hK _ _ h⟩
theorem wpAnyIn_of_wpAny {P : Program} {ops : Array Oper} {md : Region.Mode} {Q : Exit → Act → World → Prop} {l n : Nat} (hQ : ¬ LetsOut Q) (hd : ∀ o ∈ ops, ∀ c, o.op ≠ .defer c) : ∀ (fuel : Nat) (listed : Array Bool) (a : Act) (w : World), wpAny P md ops Q fuel listed a w → wpAnyIn (Fence.wide.inRound l) n P md ops Q fuel listed a w
 | 0, _, _, _, h => h
 | fuel + 1, listed, a, w, h => ⟨h.1, fun i hi => wpOpIn_of_wpOp hQ hd (fun a w => wpAnyIn_of_wpAny hQ hd fuel _ a w) (h.2 i hi)⟩
theorem startR_ {P : Program} {ops : Array Oper} {Q : Exit → Act → World → Prop} {S : World → Prop} {ds : List Nat} {l id n m : Nat} {a : Act} {w : World} (hQ : ¬ LetsOut Q) (hd : ∀ o ∈ ops, ∀ c, o.op ≠ .defer c) (ls : Array Bool) (hm : P.follows .mixedOrders = true) (hn : ops.size = n) (hl : Array.replicate n false = ls) (hS : S w.drew)
  (h : S w.drew → wpAnyLast P .any ops Q S ds n ls a w.drew) : (Code.region id ops true).wpIn (Fence.wide.inRound l) m P Q a w := by
 subst hn
 subst hl
 exact wpIn_region_any hm (wpAnyIn_of_wpAny hQ hd _ _ _ _ (wpAny_of_last _ _ _ _ (h hS)))
end Go.Proofs.Ytnmphfelebkaiaa.Pr
-- shrunk
/-
Contracts of slices.Clone, slices.Grow (of a nil slice) and slices.Concat at []string: what they answer, for lists of at most 2^42 elements.
-/
namespace Go.Proofs.Ytnmphfelebkaiaa.Pr
open Go.RowKit Go.Proofs.YtnmphfelebkaiaaW.PrintWords Go.Proofs.YtnmphfelebkaiaaW.PrintLast Go.Proofs.YtnmphfelebkaiaaW.PrintMore
set_option linter.unusedVariables false
set_option linter.unusedSimpArgs false
theorem ginfoStr : (Try.prog.info? 9).map (fun i => (i.zero, i.size, i.bytes)) = some (some (.string ⟨#[]⟩), 1, 16) := by kernel_rfl
def slices_Clone_string_string.f (l0 : List ByteArray) : Option (List ByteArray) := if l0.length ≤ 4398046511104 then some l0 else none
set_option maxHeartbeats 400000 in
theorem slices_Clone_string_string.calls (A0 : Option Addr) (c0 : Nat) (l0 : List ByteArray) (r : List ByteArray) (w : World) (hr0 : Kd.C Kd.string w A0 l0.length l0) (hc0 : l0.length ≤ c0) (h : slices_Clone_string_string.f l0 = some r) :
  Calls Try.prog 31 #[.slice A0 l0.length c0] w fun e w' => ∃ v0_ : Value, e = .returned (v0_) ∧ Kd.R Kd.string 9 w' w.heap.size (fun _ => True) v0_ r ∧ Below w.heap.size w w' := by
 unfold slices_Clone_string_string.f at h
 by_cases hl : l0.length ≤ 4398046511104
 ·rw [if_pos hl] at h
  obtain rfl := Option.some.inj h
  have HR := Aside0.mk hr0
  have HC := Aside0.mk hc0
  clear h hr0 hc0
  rcases A0 with _ | ad
  ·have he := fun W => Lib.run_eql_slice_nil (P := Try.prog) W 22 9 none l0.length c0 0 0 Try.underlying22
   have h0 : l0 = [] := by
    rcases Nat.eq_zero_or_pos l0.length with h0 | h0
    ·exact List.eq_nil_of_length_eq_zero h0
    ·obtain ⟨ad, h, _⟩ := HR.out.2.2 h0
     cases h
   have H0 := Aside0.mk h0
   clear h0
   go_enter Try.func31, Try.ntmps31
   go_wp2
   go_ret
   refine ⟨_, rfl, ?_, Below.refl _ _⟩
   rw [H0.out]
   exact Kd.R_nil _ _ _ _ _
  ·have he := fun W => Lib.run_eql_slice_nil (P := Try.prog) W 22 9 (some ad) l0.length c0 0 0 Try.underlying22
   go_enter Try.func31, Try.ntmps31
   have HB := Aside0.mk (Below.refl w.heap.size w)
   go_wp2_with (first | ((with_reducible refine gate_dst (N := 5) rfl ?_); (try (refine gate_guard (by rfl) ?_; dsimp only)); refine Kd.R_lit Kd.string w.heap.size 9 ?hg (N := 5) ?hd (xs := ([] : List ByteArray)) (inner := []) (ok := fun _ => True) (okp := fun _ => True) ?hr ?hp (fun _ hk => hk) trivial HB.out (Nat.le_refl _) (by simp) ?_; (case hd => rfl); (case hg => rfl); (case hr => first | (go_simp; done) | (go_simp; rfl)); (case hp => exact (Reps.none _ _)); intro v1 w1 ho hb hg_ hnew_; clear hg_ hnew_; have HO := Aside0.mk ho; have HBb := Aside0.mk hb; clear ho hb) | (at_builtin; refine Kd.R_append_rows Kd.string (w0 := w) w.heap.size rfl (.tmp 5) (.tmp 6) 22 9 (.string ⟨#[]⟩) 16 rfl Try.underlying22 ginfoStr rfl (by decide) (by omega) v1 [] l0 _ _ _ (fun _ => True) (fun _ => False) rfl rfl HO.out (Kd.C_below HR.out HBb.out) (fun _ _ h => h) (fun _ h => h.elim) (fun _ _ => trivial) HBb.out HBb.out.size (by simp; omega) ?_; intro v2 w2 ho hb hg hat; have HO2 := Aside0.mk ho; have HB2 := Aside0.mk hb; clear ho hb hg hat))
   go_ret
   exact ⟨_, rfl, HO2.out, HB2.out⟩
 ·rw [if_neg hl] at h; cases h
end Go.Proofs.Ytnmphfelebkaiaa.Pr
-- shrunk
/-
What is between two lists of texts, as plain functions on lists: the longest common subsequence's length, the way, and the edits of the way.
-/
namespace Go.Proofs.Ytnmphfelebkaiaa.Pr
open Go.RowKit Go.Proofs.YtnmphfelebkaiaaW.PrintWords Go.Proofs.YtnmphfelebkaiaaW.PrintLast Go.Proofs.YtnmphfelebkaiaaW.PrintMore
abbrev Ed := S52
def lcsLen : List ByteArray → List ByteArray → Nat
 | [], _ => 0
 | _ :: _, [] => 0
 | x :: xs, y :: ys => if x = y then lcsLen xs ys + 1 else max (lcsLen xs (y :: ys)) (lcsLen (x :: xs) ys)
termination_by xs ys => xs.length + ys.length
inductive Step where
 | keep
 | del
 | ins (s : ByteArray)
def steps : List ByteArray → List ByteArray → List Step
 | [], [] => []
 | [], y :: ys => .ins y :: steps [] ys
 | _ :: xs, [] => .del :: steps xs []
 | x :: xs, y :: ys => if x = y then .keep :: steps xs ys else if lcsLen (x :: xs) ys ≤ lcsLen xs (y :: ys) then .del :: steps xs (y :: ys) else .ins y :: steps (x :: xs) ys
termination_by xs ys => xs.length + ys.length
def edLast (out : List Ed) : Ed := out.getD (out.length - 1) ⟨0, 0, []⟩
def opened (at_ : Int) (op : Bool) (out : List Ed) : List Ed := if op = true then out else out ++ [⟨at_, 0, []⟩]
def addDel (out : List Ed) : List Ed := out.set (out.length - 1) ⟨(edLast out).f0, (edLast out).f1 + 1, (edLast out).f2⟩
def addIns (s : ByteArray) (out : List Ed) : List Ed := out.set (out.length - 1) ⟨(edLast out).f0, (edLast out).f1, (edLast out).f2 ++ [s]⟩
def edits (at_ : Int) (op : Bool) (out : List Ed) : List Step → List Ed
 | [] => out
 | .keep :: r => edits (at_ + 1) false out r
 | .del :: r => edits (at_ + 1) true (addDel (opened at_ op out)) r
 | .ins s :: r => edits at_ true (addIns s (opened at_ op out)) r
def common : List ByteArray → List ByteArray → Nat
 | x :: xs, y :: ys => if x = y then common xs ys + 1 else 0
 | _, _ => 0
def midEdits (at_ : Int) (x y : List ByteArray) : List Ed :=
 if x = [] ∧ y = [] then [] else if x = [] ∨ y = [] ∨ 65536 < x.length * y.length then [⟨at_, (x.length : Int), y⟩] else edits at_ false [] (steps x y)
def frontOf (a b : List ByteArray) : Nat := common a b
def endOf (a b : List ByteArray) : Nat := common (a.drop (frontOf a b)).reverse (b.drop (frontOf a b)).reverse
def midOf (a b : List ByteArray) : List ByteArray := (a.drop (frontOf a b)).take ((a.drop (frontOf a b)).length - endOf a b)
def between (a b : List ByteArray) : List Ed :=
 midEdits (frontOf a b : Int) (midOf a b) ((b.drop (frontOf a b)).take ((b.drop (frontOf a b)).length - endOf a b))
theorem opened_ne (at_ : Int) (op : Bool) (out : List Ed) (h : op = true → out ≠ []) : opened at_ op out ≠ [] := by
 unfold opened; split
 ·exact h ‹_›
 ·simp
theorem addDel_ne (out : List Ed) (h : out ≠ []) : addDel out ≠ [] := by
 unfold addDel; intro e; rw [List.set_eq_nil_iff] at e; exact h e
theorem addIns_ne (s : ByteArray) (out : List Ed) (h : out ≠ []) : addIns s out ≠ [] := by
 unfold addIns; intro e; rw [List.set_eq_nil_iff] at e; exact h e
end Go.Proofs.Ytnmphfelebkaiaa.Pr
-- shrunk
/-
A list of edits of the call's own, of which the last one is changed: what is known of memory then.
-/
namespace Go.Proofs.Ytnmphfelebkaiaa.Pr
open Go.RowKit Go.Proofs.YtnmphfelebkaiaaW.PrintWords Go.Proofs.YtnmphfelebkaiaaW.PrintLast Go.Proofs.YtnmphfelebkaiaaW.PrintMore
set_option linter.unusedVariables false
set_option linter.unusedSimpArgs false
theorem edLast_eq (out : List Ed) (j : Int) (hj : j.toNat = out.length - 1) : out.getD j.toNat z52 = edLast out := by rw [hj]; rfl
theorem own_del {W : World} {base g cap : Nat} {out : List Ed} {j : Int} (hS : Kd.S k52 52 W base (fun _ => True) (.slice (some ⟨g, 0, none⟩) out.length cap) out) (hne : out ≠ []) (h0 : 0 ≤ j) (hj : j.toNat = out.length - 1) :
  W.cell? ⟨g, j.toNat * 3 + 1, none⟩ = some (.int .i64 (edLast out).f1) ∧ W.frozen? ⟨g, j.toNat * 3 + 1, none⟩ = false ∧
   Kd.S k52 52 (W.setCell ⟨g, j.toNat * 3 + 1, none⟩ (.int .i64 ((edLast out).f1 + 1))) base (fun _ => True) (.slice (some ⟨g, 0, none⟩) out.length cap) (addDel out) ∧
   W.grownBy (W.setCell ⟨g, j.toNat * 3 + 1, none⟩ (.int .i64 ((edLast out).f1 + 1))) (some g) := by
 have hl : 0 < out.length := List.length_pos_iff.2 hne
 have h1 : j < (out.length : Int) := by omega
 have hS' : Kd.S k52 52 W base (fun k => True ∧ ¬ False) (.slice (some ⟨g, 0, none⟩) out.length cap) out := Kd.S_mono hS (fun _ _ => ⟨trivial, id⟩)
 obtain ⟨oki, c, hcl, hM, hcc, hfr, hoki, hH⟩ := Kd.S_elem hS' z52 j h0 h1
 rw [edLast_eq out j hj] at hM
 obtain ⟨vi, rfl, hvi⟩ := k52_openM hM
 have hc1 := hcc 1 _ rfl
 obtain ⟨h2, h3⟩ := Kd.S_seg (okg := fun _ => False) hH h0 h1 (seg := [.int .i64 ((edLast out).f1 + 1)]) (j := 1) (show 1 + 1 ≤ 3 by decide) (x' := ⟨(edLast out).f0, (edLast out).f1 + 1, (edLast out).f2⟩)
  (k52_mkM W base oki ⟨(edLast out).f0, (edLast out).f1 + 1, (edLast out).f2⟩ hvi) (fun k hk => .inl hk) (fun k hk => hk.elim)
 exact ⟨hc1, hfr 1, by unfold addDel; rw [← hj]; exact Kd.S_mono h2 (fun _ _ => trivial), h3⟩
theorem own_ins {W : World} {base g cap : Nat} {out : List Ed} {j : Int} (s : ByteArray) (hS : Kd.S k52 52 W base (fun _ => True) (.slice (some ⟨g, 0, none⟩) out.length cap) out) (hne : out ≠ []) (h0 : 0 ≤ j) (hj : j.toNat = out.length - 1) :
  ∃ (vi : Value) (Ai : Option Addr) (ci : Nat) (oki : Nat → Prop), vi = .slice Ai (edLast out).f2.length ci ∧ W.cell? ⟨g, j.toNat * 3 + 2, none⟩ = some vi ∧ Kd.R Kd.string 9 W base oki vi (edLast out).f2 ∧ (∀ k, W.heap.size ≤ k → oki k) ∧ (∀ k, vi.ownBlock = some k → k ≠ g) ∧
   ∀ (W2 w1 : World) (v1 : Value), Below W.heap.size W W2 → W2.grownBy w1 vi.ownBlock → Kd.R Kd.string 9 w1 base oki v1 ((edLast out).f2 ++ [s]) →
    w1.cell? ⟨g, j.toNat * 3 + 2, none⟩ = some vi ∧ w1.frozen? ⟨g, j.toNat * 3 + 2, none⟩ = false ∧
    Kd.S k52 52 (w1.setCell ⟨g, j.toNat * 3 + 2, none⟩ v1) base (fun _ => True) (.slice (some ⟨g, 0, none⟩) out.length cap) (addIns s out) ∧ w1.grownBy (w1.setCell ⟨g, j.toNat * 3 + 2, none⟩ v1) (some g) ∧ (∃ cells, w1.heap[g]? = some (.cells cells 52 (0, 0))) := by
 have hl : 0 < out.length := List.length_pos_iff.2 hne
 have h1 : j < (out.length : Int) := by omega
 obtain ⟨oki, c, hcl, hM, hcc, hfr, hoki, hH⟩ := Kd.S_elem hS z52 j h0 h1
 rw [edLast_eq out j hj] at hM
 obtain ⟨vi, rfl, hvi⟩ := k52_openM hM
 have hc2 := hcc 2 _ rfl
 obtain ⟨g', cap', e', _, hlt, cells0, hg0⟩ := Kd.S_form hS hl
 have hgg : g' = g := by injection e' with e' _ _; injection e' with e'; injection e' with e'; exact e'.symm
 subst hgg
 have hH2 := Kd.H_widen hH
 have hvi2 : Kd.R Kd.string 9 W base (fun k => oki k ∨ True ∧ W.heap.size ≤ k) vi (edLast out).f2 := Kd.R_mono hvi (fun k hk => .inl hk)
 obtain ⟨Ai, ci, evi⟩ := Kd.R_slice hvi
 refine ⟨vi, Ai, ci, fun k => oki k ∨ True ∧ W.heap.size ≤ k, evi, hc2, hvi2, fun k hk => .inr ⟨trivial, hk⟩, fun k hk => (hoki k (hvi.1 k hk)).2, fun W2 w1 v1 hb hg hR => ?_⟩
 have hne2 : ∀ k, vi.ownBlock = some k → k ≠ g' := fun k hk => (hoki k (hvi.1 k hk)).2
 have hgb : ¬ vi.ownBlock = some g' := fun h => hne2 _ h rfl
 have hlt2 : g' < W2.heap.size := Nat.lt_of_lt_of_le hlt hb.size
 have hcell : w1.heap[g']? = W.heap[g']? := (hg.block g' hlt2 (fun e => hgb e.symm)).trans (hb.block g' hlt)
 have hH3 := Kd.H_grown (Kd.H_below hH2 hb) hg (fun k hk => .inl (hvi.1 k hk))
 obtain ⟨h4, h5⟩ := Kd.H_seg hH3 h0 h1 (seg := [v1]) (j := 2) (show 2 + 1 ≤ 3 by decide) (by intro q hq; simp at hq; subst hq; exact (Kd.R_val hR).2)
 have hokne : ∀ k, (oki k ∨ True ∧ W.heap.size ≤ k) → k ≠ g' := by
  rintro k (hk | hk)
  ·exact (hoki k hk).2
  ·omega
 refine ⟨by rw [← hc2]; exact World.cell?_of_block hcell, by rw [← hfr 2]; exact World.frozen?_of_block hcell, ?_, h5, ⟨cells0, hcell.trans hg0⟩⟩
 unfold addIns
 rw [← hj]
 refine Kd.H_back h4 (okp := fun k => oki k ∨ True ∧ W.heap.size ≤ k) ?_ (fun _ hk => hk)
 exact k52_mkM _ base _ ⟨(edLast out).f0, (edLast out).f1, (edLast out).f2 ++ [s]⟩ (Kd.R_far hR (p := ⟨g', j.toNat * 3 + 2, none⟩) hokne v1)
end Go.Proofs.Ytnmphfelebkaiaa.Pr
-- shrunk
