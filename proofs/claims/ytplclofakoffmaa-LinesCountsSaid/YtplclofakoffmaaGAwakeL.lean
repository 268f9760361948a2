/-
The chapter's example of layer 3 answers true; the laws of layer 3, their plain part.
-/
import Derived.Test.YtplclofakoffmaaGLineS
import Derived.Test.YtplclofakoffmaaD2c
namespace Go.Proofs.Ytplclofakoffmaa.Pr
open Go.RowKit Go.Proofs.YtplclofakoffmaaW.PrintWords Go.Proofs.YtplclofakoffmaaW.PrintLast Go.Proofs.YtplclofakoffmaaW.PrintMore
set_option linter.unusedVariables false
set_option linter.unusedSimpArgs false
theorem lit3 (a b c : UInt8) : (⟨#[a, b, c]⟩ : ByteArray).toList = [a, b, c] := by
  rw [ByteArray.toList, ByteArray.toList.loop, ByteArray.toList.loop, ByteArray.toList.loop, ByteArray.toList.loop]; rfl
def exS : ByteArray := ⟨#[97, 10, 98]⟩
def exL : List ByteArray := [(⟨#[97, 10]⟩ : ByteArray), (⟨#[98]⟩ : ByteArray)]
theorem ex_split : linesB exS = exL := by rw [linesB_lns]; rfl
theorem ex_flat : flatB exL = exS := rfl
theorem awake_ev : Ev (fun k => grapevinelaw03_awake.f k) true := by
  unfold grapevinelaw03_awake.f
  refine Ev.bind (a := exL) (Ev.none_of fun _ => by rw [← ex_split]; exact Split_some exS (by decide)) ?_
  have hT := Texts_ev exL exL (by decide)
  rw [decide_eq_true rfl] at hT
  refine Ev.bind hT ?_
  simp only [if_true]
  refine Ev.bind (a := exS) (Ev.none_of fun _ => by rw [← ex_flat]; exact Join_some exL (by decide) (by decide)) ?_
  simp only [show exS.toList = ([97, 10, 98] : List UInt8) from lit3 _ _ _, if_true]
  have hR := Right_ev exL (by decide) (by decide)
  rw [decide_eq_true (by rw [ex_flat, ex_split])] at hR
  refine Ev.bind hR ?_
  simp only [if_true]
  refine Ev.bind (a := false) (Ev.none_of fun _ => by rw [show (⟨#[97, 10, 98]⟩ : ByteArray) = exS from rfl, Closed_some exS (by decide)]; rfl) ?_
  simp only [Bool.false_eq_true, if_false]
  refine Ev.bind (a := false) (Ev.none_of fun _ => by rw [Binary_some]; rfl) ?_
  simp only [Bool.false_eq_true, if_false]
  refine Ev.bind (a := 2) (Ev.none_of fun _ => by rw [show (⟨#[97, 10, 98]⟩ : ByteArray) = exS from rfl, Count_some exS (by decide), ex_split]; rfl) ?_
  exact Ev.now _
end Go.Proofs.Ytplclofakoffmaa.Pr
