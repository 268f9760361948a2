/-
The chapter's example of layer 5: it answers true.
-/
import Derived.Test.YtlabiajcohmjhaaGM2
import Derived.Test.YtlabiajcohmjhaaGAwakeH0
namespace Go.Proofs.Ytlabiajcohmjhaa.Pr
open Go.RowKit Go.Proofs.YtlabiajcohmjhaaW.PrintWords Go.Proofs.YtlabiajcohmjhaaW.PrintLast Go.Proofs.YtlabiajcohmjhaaW.PrintMore
set_option linter.unusedVariables false
set_option linter.unusedSimpArgs false
def grapevinelaw05_awake.f : Option Bool := some true
theorem lit2 (x y : UInt8) : (⟨#[x, y]⟩ : ByteArray).toList = [x, y] := by
 rw [ByteArray.toList, ByteArray.toList.loop, ByteArray.toList.loop, ByteArray.toList.loop]; rfl
def exA : List ByteArray := [(⟨#[97]⟩ : ByteArray), (⟨#[98]⟩ : ByteArray), (⟨#[99]⟩ : ByteArray)]
def exE : Ed := ⟨1, 1, [(⟨#[120]⟩ : ByteArray)]⟩
def exB : Blk := ⟨[(⟨#[97]⟩ : ByteArray)], [(⟨#[98]⟩ : ByteArray)], [(⟨#[120]⟩ : ByteArray)]⟩
def exH : Hk := ⟨0, 3, 0, 3, blkLines [exB] [(⟨#[99]⟩ : ByteArray)]⟩
theorem exMake : makeH exA 1 0 [exE] = [exH] := by
 have e1 : fromH exE 1 = 0 := rfl
 have e2 : toH exA exE [] 1 = 3 := rfl
 have e3 : linesH exA 1 exE [] = blkLines [exB] [(⟨#[99]⟩ : ByteArray)] := rfl
 rw [makeH, grp, makeH, hunkOf, e1, e2, e3]
 rfl
theorem awake_ev : Ev (fun k => grapevinelaw05_awake0.f k) true := by
 unfold grapevinelaw05_awake0.f
 have hsa : ∀ s ∈ exA, s.size ≤ 4611686018427387904 := by
  intro s hs
  simp only [exA, List.mem_cons, List.not_mem_nil, or_false] at hs
  rcases hs with rfl | rfl | rfl <;> show 1 ≤ _ <;> omega
 have hse : ∀ e ∈ [exE], ∀ s ∈ e.f2, s.size ≤ 4611686018427387904 := by
  intro e he s hs
  simp only [List.mem_cons, List.not_mem_nil, or_false] at he
  subst he
  simp only [exE, List.mem_cons, List.not_mem_nil, or_false] at hs
  subst hs
  show 1 ≤ _; omega
 have hm := Make_ev exA [exE] 1 (by decide) (by decide) hsa hse (by omega) (by omega) (by decide) (by decide)
 rw [exMake] at hm
 refine Ev.bind hm ?_
 simp only [if_true]
 refine Ev.step (fun _ => grapevinelaw05_awake0.j0.eq_2 ..) ?_
 have hr0 : rd_T33 [exH] 0 = exH := rfl
 have hok : BOk true [exB] := ⟨Or.inl (by simp [exB]), Or.inl rfl, trivial⟩
 have hed : Ev (fun k => hunk_Edits.f k exH.f0 exH.f1 exH.f2 exH.f3 exH.f4) [exE] := Edits_ev 0 3 0 3 [exB] [(⟨#[99]⟩ : ByteArray)] hok (by omega) (by decide) (by decide) (by decide)
 have hri : Ev (fun k => hunk_Right.f k exH.f0 exH.f1 exH.f2 exH.f3 exH.f4) true := by
  have h := HRight_ev 0 3 0 3 (blkLines [exB] [(⟨#[99]⟩ : ByteArray)]) (by decide)
  rw [cntL_blk [exB] _ true false 0 0 hok (fun _ => rfl)] at h
  exact h
 have htu : Ev (fun k => hunk_Turn.f k exH.f0 exH.f1 exH.f2 exH.f3 exH.f4) (0, 3, 0, 3, blkLines ([exB].map swapB) [(⟨#[99]⟩ : ByteArray)]) := by
  refine HTurn_ev 0 3 0 3 [exB] [(⟨#[99]⟩ : ByteArray)] hok ⟨?_, trivial⟩ (by decide)
  intro s hs
  simp only [exB, List.mem_cons, List.cons_append, List.nil_append, List.not_mem_nil, or_false] at hs
  rcases hs with rfl | rfl <;> show 1 ≤ _ <;> omega
 have hli : exH.f4 = [(⟨#[32, 97]⟩ : ByteArray), (⟨#[45, 98]⟩ : ByteArray), (⟨#[43, 120]⟩ : ByteArray), (⟨#[32, 99]⟩ : ByteArray)] := by decide
 have hl2 : blkLines ([exB].map swapB) [(⟨#[99]⟩ : ByteArray)] = [(⟨#[32, 97]⟩ : ByteArray), (⟨#[45, 120]⟩ : ByteArray), (⟨#[43, 98]⟩ : ByteArray), (⟨#[32, 99]⟩ : ByteArray)] := by decide
 have hone : Ev (fun k => grapevineref05_One.f k exH.f0 exH.f1 exH.f2 exH.f3 exH.f4 0 3 0 3 [(⟨#[32, 97]⟩ : ByteArray), (⟨#[45, 98]⟩ : ByteArray), (⟨#[43, 120]⟩ : ByteArray), (⟨#[32, 99]⟩ : ByteArray)]) true := by
  unfold grapevineref05_One.f
  simp only [show exH.f0 = 0 from rfl, show exH.f1 = 3 from rfl, show exH.f2 = 0 from rfl, show exH.f3 = 3 from rfl, if_true]
  have h := Texts_ev exH.f4 [(⟨#[32, 97]⟩ : ByteArray), (⟨#[45, 98]⟩ : ByteArray), (⟨#[43, 120]⟩ : ByteArray), (⟨#[32, 99]⟩ : ByteArray)] (by rw [hli]; decide)
  rw [decide_eq_true hli] at h
  exact Ev.bind h (Ev.now _)
 simp only [show (([exH].length : Int) != 1) = false from rfl, Bool.false_eq_true, if_false, hr0, if_pos (show 0 < (([exH].length : Nat) : Int) by decide)]
 refine Ev.bind hed ?_
 refine Ev.bind hone ?_
 simp only [if_true]
 refine Ev.bind hri ?_
 simp only [if_true, show rd_T51 [exE] 0 = exE from rfl, show exE.f0 = 1 from rfl, if_pos (show (([exE].length : Nat) : Int) = 1 by decide), if_pos (show 0 < (([exE].length : Nat) : Int) by decide)]
 refine Ev.bind htu ?_
 simp only [hl2]
 rw [if_pos (by decide)]
 have e : (rdOf ByteArray.empty [(⟨#[32, 97]⟩ : ByteArray), (⟨#[45, 120]⟩ : ByteArray), (⟨#[43, 98]⟩ : ByteArray), (⟨#[32, 99]⟩ : ByteArray)] 1) = (⟨#[45, 120]⟩ : ByteArray) := rfl
 rw [e, lit2]
 exact Ev.now _
theorem grapevinelaw05_awake.calls (r : Bool) (w : World) (h : grapevinelaw05_awake.f = some r) :
  Calls Try.prog 9 #[] w fun e w' => e = .returned (.bool r) ∧ Below w.heap.size w w' := by
 obtain rfl : true = r := Option.some.inj h
 obtain ⟨k, hk⟩ := awake_ev.rounds
 exact grapevinelaw05_awake0.calls k true w ⟨rfl⟩ hk
end Go.Proofs.Ytlabiajcohmjhaa.Pr
-- shrunk
