/-
The law ApplyOwn walked by hand: the rows of what was answered are written, and what came in stays.
-/
import Derived.Test.YtoaijganmfijmaaK5
namespace Go.Proofs.Ytoaijganmfijmaa.Pr
open Go.RowKit Go.Proofs.YtoaijganmfijmaaW.PrintWords Go.Proofs.YtoaijganmfijmaaW.PrintLast Go.Proofs.YtoaijganmfijmaaW.PrintMore
set_option linter.unusedVariables false
set_option linter.unusedSimpArgs false
theorem k41_openM' {w : World} {base : Nat} {ok : Nat → Prop} {x : S41} {cs : List Value} (h : k41.M w base ok x cs) : ∃ v4, cs = [.int .i64 x.f0, .int .i64 x.f1, .int .i64 x.f2, .int .i64 x.f3, v4] ∧ Kd.string.R 9 w base ok v4 x.f4 := by
  obtain ⟨_, _, rfl, rfl, ⟨_, _, rfl, rfl, ⟨_, _, rfl, rfl, ⟨_, _, rfl, rfl, ⟨v4, rfl, g4⟩⟩⟩⟩⟩ := h
  exact ⟨v4, rfl, g4⟩
/-- A row of texts of the call's own, as far as one may write into it. -/
def RI (s : Nat) (A : Option Addr) (l : Nat) (w : World) : Prop := 0 < l → ∃ b cs, A = some ⟨b, 0, none⟩ ∧ s ≤ b ∧ w.heap[b]? = some (.cells cs 9 (0, 0)) ∧ l ≤ cs.size
/-- A row of hunks whose rows are the call's own. -/
def MI (s n : Nat) (A : Option Addr) (w : World) : Prop := ∀ i, i < n → ∃ ad A4 l c, A = some ad ∧ (∃ cs, w.heap[ad.block]? = some (.cells cs 41 (0, 0))) ∧ w.cell? ⟨(ad.add (i * 5)).block, (ad.add (i * 5)).off + 4, none⟩ = some (.slice A4 l c) ∧ l ≤ 9223372036854775807 ∧ l ≤ c ∧ RI s A4 l w
theorem RI.of {w : World} {s : Nat} {ok : Nat → Prop} {v : Value} {xs : List ByteArray} (h : Kd.string.R 9 w s ok v xs) : ∃ A c, v = .slice A xs.length c ∧ xs.length ≤ 9223372036854775807 ∧ xs.length ≤ c ∧ RI s A xs.length w := by
  obtain ⟨A, c, rfl, hc, hr⟩ := Kd.R_reads h
  refine ⟨A, c, rfl, hr.2.1, hc, fun h0 => ?_⟩
  obtain ⟨inner, ho⟩ := Kd.R_own h
  rcases ho.2 with ⟨_, h2⟩ | ⟨g, cap, cur, he, hg, hh, h1, _, h3, _⟩
  · omega
  · injection he with e1 _ _
    exact ⟨g, cur, e1, hg, hh, by rw [h3, show Kd.string.sz = 1 from rfl]; omega⟩
theorem RI.set {s : Nat} {A : Option Addr} {l : Nat} {w : World} (h : RI s A l w) {b : Nat} {cs : Array Value} (hb : w.heap[b]? = some (.cells cs 9 (0, 0))) (k : Nat) (u : Value) : RI s A l (w.setCell ⟨b, k, none⟩ u) := by
  intro h0
  obtain ⟨b', cs', e, hs, hh, hl⟩ := h h0
  by_cases hbb : b' = b
  · subst hbb
    rw [hb] at hh
    injection hh with hh
    injection hh with hh _ _
    subst hh
    exact ⟨b', _, e, hs, blk_put hb k u rfl, by rw [Array.size_setIfInBounds]; exact hl⟩
  · exact ⟨b', cs', e, hs, (Below.heap_setCell w ⟨b, k, none⟩ u b' hbb).trans hh, hl⟩
theorem MI.of {w : World} {s : Nat} {ok : Nat → Prop} {A : Option Addr} {n c : Nat} {xs : List S41} (h : Kd.R k41 41 w s ok (.slice A n c) xs) : MI s xs.length A w := by
  intro i hi
  obtain ⟨A', c', he, hc, hr⟩ := h.2.reads
  injection he with e1 _ _
  subst e1
  obtain ⟨ad, cs, e, _, hM, hc0⟩ := hr.get_ z41 (i : Int) (by omega) (by omega)
  subst e
  obtain ⟨cells, hcells⟩ := Kd.R_typed h ad.block rfl
  obtain ⟨v4, rfl, hR⟩ := k41_openM' hM
  obtain ⟨A4, c4, rfl, hl, hlc, hRI⟩ := RI.of hR
  refine ⟨ad, A4, _, c4, rfl, ⟨cells, hcells⟩, ?_, hl, hlc, hRI⟩
  rw [← add_field _ _ 4 (by omega)]
  have := hc0 4 _ rfl
  rw [Int.toNat_natCast] at this
  exact this
theorem MI.set {s n : Nat} {A : Option Addr} {w : World} (h : MI s n A w) {b : Nat} {cs : Array Value} (hb : w.heap[b]? = some (.cells cs 9 (0, 0))) (k : Nat) (u : Value) : MI s n A (w.setCell ⟨b, k, none⟩ u) := by
  intro i hi
  obtain ⟨ad, A4, l, c, e, ⟨cs', hcs⟩, hc, hl, hlc, hr⟩ := h i hi
  have hne : ad.block ≠ b := blk_ne hcs hb (by decide)
  have hh := Below.heap_setCell w ⟨b, k, none⟩ u ad.block hne
  refine ⟨ad, A4, l, c, e, ⟨cs', hh.trans hcs⟩, ?_, hl, hlc, hr.set hb k u⟩
  rw [World.cell?_of_block (w := w) (by rw [show (⟨(ad.add (i * 5)).block, (ad.add (i * 5)).off + 4, none⟩ : Addr).block = ad.block by simp only [Addr.add]; split <;> rfl]; exact hh)]
  exact hc
theorem MI.cell {A4 : Option Addr} {l c : Nat} {w : World} {ad : Addr} {i b : Nat} {cs cs' : Array Value} (hcs : w.heap[ad.block]? = some (.cells cs' 41 (0, 0))) (hb : w.heap[b]? = some (.cells cs 9 (0, 0))) (k : Nat) (u : Value)
    (h : w.cell? ⟨(ad.add (i * 5)).block, (ad.add (i * 5)).off + 4, none⟩ = some (.slice A4 l c)) : (w.setCell ⟨b, k, none⟩ u).cell? ⟨(ad.add (i * 5)).block, (ad.add (i * 5)).off + 4, none⟩ = some (.slice A4 l c) := by
  have hne : ad.block ≠ b := blk_ne hcs hb (by decide)
  rw [World.cell?_of_block (w := w) (by rw [show (⟨(ad.add (i * 5)).block, (ad.add (i * 5)).off + 4, none⟩ : Addr).block = ad.block by simp only [Addr.add]; split <;> rfl]; exact Below.heap_setCell w ⟨b, k, none⟩ u ad.block hne)]
  exact h
theorem setCell_in {s : Nat} {w0 w : World} (h : Below s w0 w) {b : Nat} (hb : s ≤ b) (k : Nat) (u : Value) : Below s w0 (w.setCell ⟨b, k, none⟩ u) := h.setCell hb u
set_option maxRecDepth 100000 in
set_option maxHeartbeats 40000000 in
theorem ownB_small (k : Nat) (A0 : Option Addr) (c0 : Nat) (l0 : List ByteArray) (A1 : Option Addr) (c1 : Nat) (l1 : List ByteArray) (a2 : Int) (t414 t422 : List S41) (w : World)
    (hr0 : Kd.C Kd.string w A0 l0.length l0) (hc0 : l0.length ≤ c0) (hr1 : Kd.C Kd.string w A1 l1.length l1) (hc1 : l1.length ≤ c1) (n0 : l0.length ≤ 24) (n1 : l1.length ≤ 24) (n2 : t422.length ≤ 1000000)
    (haw : grapevinelaw07_awake.f = some true) (A9 : apply_Between.f k l0 l1 (wrap64 (Int.tmod a2 10)) = some (t414, 0)) (A10 : apply_Apply.f l0 t414 = some (l1, 0)) (A11 : apply_Turn.f k t414 = some t422)
    (T0 : grapevineref01_Texts.f k l0 l0 = some true) (T1 : grapevineref01_Texts.f k l1 l1 = some true) :
    Calls Try.prog 7 #[.slice A0 l0.length c0, .slice A1 l1.length c1, .int .u8 a2] w fun e w' => e = .returned (.bool true) ∧ Below w.heap.size w w' := by
  have hu41 := Try.underlying41
  have HR0 := Aside0.mk hr0
  have HC0 := Aside0.mk hc0
  have HR1 := Aside0.mk hr1
  have HC1 := Aside0.mk hc1
  have HAW := Aside0.mk haw
  have H9 := Aside0.mk A9
  have H10 := Aside0.mk A10
  have H11 := Aside0.mk A11
  have HT0 := Aside0.mk T0
  have HT1 := Aside0.mk T1
  clear hr0 hc0 hr1 hc1 haw A9 A10 A11 T0 T1
  have f0 : decide (24 < (l0.length : Int)) = false := decide_eq_false (by omega)
  have f1 : decide (24 < (l1.length : Int)) = false := decide_eq_false (by omega)
  have f0' : decide (24 < l0.length) = false := decide_eq_false (by omega)
  have f1' : decide (24 < l1.length) = false := decide_eq_false (by omega)
  go_enter Try.func7, Try.ntmps7
  go_wp2_with (first
    | (go_at_call 10; (with_reducible refine (grapevinelaw07_awake.calls true _ HAW.out).mono ?_); rintro e w6 ⟨rfl, hb6⟩; have HB1 := Aside0.mk hb6; clear hb6)
    | (go_at_call 20; (with_reducible refine (apply_Between.calls k _ _ l0 _ _ l1 (wrap64 (Int.tmod a2 10)) t414 0 _ ?side1 ?side2 ?side3 ?side4 H9.out).mono ?_); (case side1 => (repeat (first | exact (Kd.C_below HR0.out HB1.out) | (with_reducible refine Kd.C_drewN ?_ _) | (with_reducible refine Kd.C_drew ?_)))); (case side2 => exact HC0.out); (case side3 => (repeat (first | exact (Kd.C_below HR1.out HB1.out) | (with_reducible refine Kd.C_drewN ?_ _) | (with_reducible refine Kd.C_drew ?_)))); (case side4 => exact HC1.out); rintro e w22 ⟨v441, rfl, ho0, hb⟩; have HB2 := Aside0.mk (below_step (by repeat (first | exact HB1.out | apply pw_below_drewN | apply below_drew1)) hb); obtain ⟨Ao, co, eo⟩ := Kd.S_slice ho0; subst eo; have HL := Aside0.mk (Kd.S_reads' ho0).2.2; have HLC := Aside0.mk (Kd.S_reads' ho0).2.1; clear ho0 hb)
    | ((with_reducible refine gate_dst (N := 38) rfl ?_); refine Kd.R_lit Kd.string _ 9 ?hg (N := 38) ?hd (xs := ([] : List ByteArray)) (inner := []) (ok := fun _ => True) (okp := fun _ => True) ?hr ?hp (fun _ hk => hk) trivial (Below.refl _ _) (Nat.le_refl _) (by simp) ?_; (case hd => rfl); (case hg => rfl); (case hr => first | (go_simp; done) | (go_simp; rfl)); (case hp => exact (Reps.none _ _)); intro v444 w23 ho24 hb hg_ hnew_; clear hg_ hnew_; have HW := Aside0.mk ho24; have HB3 := Aside0.mk hb; clear ho24 hb)
    | ((with_reducible refine gate_builtin (b := .append) (xs := #[.tmp 38, .tmp 39]) rfl ?_); at_builtin; refine Kd.R_append_rows Kd.string (w0 := w22) w22.heap.size rfl (.tmp 38) (.tmp 39) 22 9 (.string ⟨#[]⟩) 16 rfl Try.underlying22 info9 rfl (by decide) (by omega) v444 [] l0 _ _ _ (fun _ => True) (fun _ => False) rfl rfl ?aO ?aR (fun _ _ h => h) (fun _ h => h.elim) ?aF ?aB ?aS ?aL ?_; (case aR => exact Kd.C_below HR0.out (below_step HB2.out HB3.out)); (case aB => exact HB3.out); (case aF => exact (fun _ _ => trivial)); (case aO => exact HW.out); (case aS => exact HB3.out.size); (case aL => first | omega | (simp only [List.length_nil]; omega)); intro v447 w25 ho hb hg hat; rw [List.nil_append] at ho; have HB4 := Aside0.mk (below_step HB2.out hb); obtain ⟨Aw, cw, ew⟩ := Kd.R_slice ho; subst ew; have HW5 := Aside0.mk (Kd.R_reads' ho).2.2; have HWC := Aside0.mk (Kd.R_reads' ho).2.1; have HL5 := Aside0.mk (Kd.C_below HL.out hb); clear ho hb hg hat HL HW HB3 HB2 HB1)
    | (go_at_call 12; (with_reducible refine (apply_Apply.calls _ _ l0 _ _ t414 l1 0 _ ?side1 ?side2 ?side3 ?side4 H10.out).mono ?_); (case side1 => exact Kd.C_below HR0.out HB4.out); (case side2 => exact HC0.out); (case side3 => exact HL5.out); (case side4 => exact HLC.out); rintro e w29 ⟨v420, rfl, ho0, hb⟩; obtain ⟨Ax, cx, ex⟩ := Kd.R_slice ho0; subst ex; have HX := Aside0.mk ho0; have HB5 := Aside0.mk hb; clear ho0 hb))
  have HRa := Aside0.mk (Kd.C_below HR0.out HB4.out)
  have HRb := Aside0.mk (Kd.C_below HR1.out HB4.out)
  clear HR0 HR1 f0 f1 f0' f1'
  go_loopw [13] (fun v13 wr => ∃ (z : Int) (xs : List ByteArray), v13 = .int .i64 z ∧ Aside0 (0 ≤ z ∧ z ≤ (l1.length : Int) ∧ xs.length = l1.length) ∧ Aside0 (Kd.R Kd.string 9 wr w25.heap.size (fun _ => True) (.slice Ax l1.length cx) xs) ∧ Aside0 (Below w25.heap.size w25 wr)) (fun v13 _ => l1.length - (intOf v13).toNat)
  case atStart => exact ⟨0, l1, rfl, ⟨by omega, by omega, rfl⟩, HX, HB5⟩
  case round =>
    clear HX HB5
    obtain ⟨z, xs, rfl, HZ, HX, HBX⟩ := hrel
    by_cases hlt : z < (l1.length : Int)
    · skip
      have f2 : decide (z < (l1.length : Int)) = true := decide_eq_true hlt
      have hz0 := HZ.out.1
      have hzl := HZ.out.2.2
      obtain ⟨g, cap, eg, hg, _, _⟩ := Kd.R_form HX.out (by omega)
      injection eg with eg _ _
      subst eg
      obtain ⟨hx, hf⟩ := Kd.R_celln ByteArray.empty HX.out z hz0 hlt
      have HP := Aside0.mk (Kd.R_putg HX.out z ⟨#[63]⟩)
      have HG := Aside0.mk hg
      have kz : IntKind.i64.wrap (z + 1) = z + 1 := IntWalk.i64_in _ (by omega)
      have HN := Aside0.mk (And.intro hz0 (And.intro hlt hzl))
      clear hzl hg HZ
      go_wp2_with (fail)
      go_roundw
      case rel => exact ⟨z + 1, xs.set z.toNat ⟨#[63]⟩, by go_num, ⟨by have := HN.out; omega, by have := HN.out; omega, by rw [List.length_set]; exact HN.out.2.2⟩, ⟨HP.out.1⟩, ⟨setCell_in HBX.out HG.out _ _⟩⟩
      case measure => have := HN.out; simp [intOf]; omega
    · skip
      have f2 : decide (z < (l1.length : Int)) = false := decide_eq_false hlt
      clear hlt HX HZ
      go_wp2_with (go_at_call 18; (with_reducible refine (apply_Turn.calls k _ _ t414 t422 _ ?side1 ?side2 H11.out).mono ?_); (case side1 => exact Kd.C_below HL5.out HBX.out); (case side2 => exact HLC.out); rintro e w30 ⟨v423, rfl, ho0, hb⟩; obtain ⟨Am, cm, em⟩ := Kd.S_slice ho0; subst em; have HM0 := Aside0.mk (MI.of (Kd.R_lower (Kd.S_R ho0) HBX.out.size)); have HB6 := Aside0.mk (below_step HBX.out hb); clear ho0 hb)
      clear HBX f2
      go_loopw [15] (fun v15 wo => ∃ z2 : Int, v15 = .int .i64 z2 ∧ Aside0 (0 ≤ z2 ∧ z2 ≤ (t422.length : Int)) ∧ Aside0 (MI w25.heap.size t422.length Am wo) ∧ Aside0 (Below w25.heap.size w25 wo)) (fun v15 _ => t422.length - (intOf v15).toNat)
      case atStart => exact ⟨0, rfl, ⟨by omega, by omega⟩, HM0, HB6⟩
      case round =>
        clear HM0 HB6
        obtain ⟨z2, rfl, HZ2, HM, HBM⟩ := hrel
        by_cases hlt2 : z2 < (t422.length : Int)
        · skip
          have f3 : decide (z2 < (t422.length : Int)) = true := decide_eq_true hlt2
          obtain ⟨ad, A4, l, c, ead, hcs, hcell, hl, hlc, hri⟩ := HM.out z2.toNat (by have := HZ2.out; omega)
          subst ead
          have HCS := Aside0.mk hcs
          have HCE := Aside0.mk hcell
          have HLL := Aside0.mk hl
          have kz2 : IntKind.i64.wrap (z2 + 1) = z2 + 1 := IntWalk.i64_in _ (by have := HZ2.out; omega)
          have hz2 := HZ2.out.1
          have HZ3 := Aside0.mk (And.intro HZ2.out.1 hlt2)
          clear hcs hcell hl hlc hri HZ2
          go_wp2_with (fail)
          go_loopw [16] (fun v16 wi => ∃ q : Int, v16 = .int .i64 q ∧ Aside0 (0 ≤ q ∧ q ≤ (l : Int)) ∧ Aside0 (wi.cell? ⟨(ad.add (z2.toNat * 5)).block, (ad.add (z2.toNat * 5)).off + 4, none⟩ = some (.slice A4 l c)) ∧ Aside0 (MI w25.heap.size t422.length (some ad) wi) ∧ Aside0 (Below w25.heap.size w25 wi)) (fun v16 _ => l - (intOf v16).toNat)
          case atStart => exact ⟨0, rfl, ⟨by omega, by omega⟩, HCE, HM, HBM⟩
          case round =>
            clear HM HBM HCE HCS
            obtain ⟨q, rfl, HQ, HCE, HM, HBM⟩ := hrel
            have hcell := HCE.out
            by_cases hlt3 : q < (l : Int)
            · skip
              have f4 : decide (q < (l : Int)) = true := decide_eq_true hlt3
              obtain ⟨ad', A4', l', c', ead, ⟨cs', hcs⟩, hcell', hl, hlc, hri⟩ := HM.out z2.toNat (by have := HZ3.out; omega)
              injection ead with ead
              subst ead
              rw [hcell] at hcell'
              injection hcell' with hcell'
              injection hcell' with e1 e2 e3
              subst e1 e2 e3
              obtain ⟨b, cs, e4, hsb, hcb, hlb⟩ := hri (by have := HQ.out; omega)
              subst e4
              have hx : wr.cell? ⟨b, q.toNat, none⟩ = some (cs[q.toNat]'(by have := HQ.out; omega)) := (blk_cell hcb _).trans (Array.getElem?_eq_getElem _)
              have hf : wr.frozen? ⟨b, q.toNat, none⟩ = false := blk_frozen hcb _
              generalize (cs[q.toNat]'(by have := HQ.out; omega)) = u at hx
              have kq : IntKind.i64.wrap (q + 1) = q + 1 := IntWalk.i64_in _ (by have := HQ.out; omega)
              have HCB := Aside0.mk hcb
              have HCS := Aside0.mk hcs
              have HSB := Aside0.mk hsb
              have HQ3 := Aside0.mk (And.intro HQ.out.1 hlt3)
              have hq0 := HQ.out.1
              clear hcb hcs hsb hlb hlc hl hri HQ
              go_wp2_with (fail)
              go_roundw
              case rel => exact ⟨q + 1, by go_num, ⟨by have := HQ3.out; omega, by have := HQ3.out; omega⟩, ⟨MI.cell HCS.out HCB.out _ _ HCE.out⟩, ⟨HM.out.set HCB.out _ _⟩, ⟨setCell_in HBM.out HSB.out _ _⟩⟩
              case measure => have := HQ3.out; simp [intOf]; omega
            · skip
              have f4 : decide (q < (l : Int)) = false := decide_eq_false hlt3
              clear hlt3 HQ
              go_wp2_with (fail)
              go_roundw
              case rel => exact ⟨z2 + 1, by go_num, ⟨by have := HZ3.out; omega, by have := HZ3.out; omega⟩, HM, HBM⟩
              case measure => have := HZ3.out; simp [intOf]; omega
        · skip
          have f3 : decide (z2 < (t422.length : Int)) = false := decide_eq_false hlt2
          clear hlt2 HZ2 HM
          go_wp2_with (first
            | (go_at_call 12; (with_reducible refine (apply_Apply.calls _ _ l0 _ _ t414 l1 0 _ ?side1 ?side2 ?side3 ?side4 H10.out).mono ?_); (case side1 => exact Kd.C_below HRa.out HBM.out); (case side2 => exact HC0.out); (case side3 => exact Kd.C_below HL5.out HBM.out); (case side4 => exact HLC.out); rintro e w33 ⟨v420, rfl, ho0, hb⟩; obtain ⟨Ay, cy, ey⟩ := Kd.R_slice ho0; subst ey; have HY := Aside0.mk (Kd.R_reads' ho0).2.2; have HYC := Aside0.mk (Kd.R_reads' ho0).2.1; have HB7 := Aside0.mk (below_step HBM.out hb); clear ho0 hb)
            | (go_at_call 14; (with_reducible refine (grapevineref01_Texts.calls k _ _ l0 _ _ l0 true _ ?side1 ?side2 ?side3 ?side4 HT0.out).mono ?_); (case side1 => (repeat (first | exact (Kd.C_below HRa.out HB7.out) | (with_reducible refine Kd.C_drewN ?_ _) | (with_reducible refine Kd.C_drew ?_)))); (case side2 => exact HC0.out); (case side3 => (repeat (first | exact (Kd.C_below HW5.out HB7.out) | (with_reducible refine Kd.C_drewN ?_ _) | (with_reducible refine Kd.C_drew ?_)))); (case side4 => exact HWC.out); rintro e w' ⟨rfl, ⟨nd, rfl⟩⟩)
            | (go_at_call 14; (with_reducible refine (grapevineref01_Texts.calls k _ _ l1 _ _ l1 true _ ?side1 ?side2 ?side3 ?side4 HT1.out).mono ?_); (case side1 => (repeat (first | exact HY.out | (with_reducible refine Kd.C_drewN ?_ _) | (with_reducible refine Kd.C_drew ?_)))); (case side2 => exact HYC.out); (case side3 => (repeat (first | exact (Kd.C_below HRb.out HB7.out) | (with_reducible refine Kd.C_drewN ?_ _) | (with_reducible refine Kd.C_drew ?_)))); (case side4 => exact HC1.out); rintro e w' ⟨rfl, ⟨nd, rfl⟩⟩))
          go_ret
          exact ⟨rfl, by repeat (first | exact below_step HB4.out HB7.out | apply pw_below_drewN | apply below_drew1)⟩
set_option maxRecDepth 100000 in
set_option maxHeartbeats 4000000 in
theorem ownB_big (A0 : Option Addr) (c0 : Nat) (l0 : List ByteArray) (A1 : Option Addr) (c1 : Nat) (l1 : List ByteArray) (a2 : Int) (w : World)
    (n0 : 24 < l0.length ∨ 24 < l1.length) (haw : grapevinelaw07_awake.f = some true) :
    Calls Try.prog 7 #[.slice A0 l0.length c0, .slice A1 l1.length c1, .int .u8 a2] w fun e w' => e = .returned (.bool true) ∧ Below w.heap.size w w' := by
  have HAW := Aside0.mk haw
  clear haw
  by_cases h0 : 24 < l0.length
  · have f0 : decide (24 < (l0.length : Int)) = true := decide_eq_true (by omega)
    have f0' : decide (24 < l0.length) = true := decide_eq_true (by omega)
    clear n0 h0
    go_enter Try.func7, Try.ntmps7
    go_wp2_with (go_at_call 10; (with_reducible refine (grapevinelaw07_awake.calls true _ HAW.out).mono ?_); rintro e w6 ⟨rfl, hb6⟩; have HB1 := Aside0.mk hb6; clear hb6)
    go_ret
    exact ⟨rfl, by repeat (first | exact HB1.out | apply pw_below_drewN | apply below_drew1)⟩
  · have f0 : decide (24 < (l0.length : Int)) = false := decide_eq_false (by omega)
    have f1 : decide (24 < (l1.length : Int)) = true := decide_eq_true (by omega)
    have f0' : decide (24 < l0.length) = false := decide_eq_false (by omega)
    have f1' : decide (24 < l1.length) = true := decide_eq_true (by omega)
    clear n0 h0
    go_enter Try.func7, Try.ntmps7
    go_wp2_with (go_at_call 10; (with_reducible refine (grapevinelaw07_awake.calls true _ HAW.out).mono ?_); rintro e w6 ⟨rfl, hb6⟩; have HB1 := Aside0.mk hb6; clear hb6)
    go_ret
    exact ⟨rfl, by repeat (first | exact HB1.out | apply pw_below_drewN | apply below_drew1)⟩
theorem ApplyOwn_calls (A0 : Option Addr) (c0 : Nat) (a : List ByteArray) (A1 : Option Addr) (c1 : Nat) (b : List ByteArray) (a2 : Int) (w : World) (hr0 : Kd.C Kd.string w A0 a.length a) (hc0 : a.length ≤ c0) (hr1 : Kd.C Kd.string w A1 b.length b) (hc1 : b.length ≤ c1)
    (za : ∀ s ∈ a, s.size ≤ 140737488351232) (zb : ∀ s ∈ b, s.size ≤ 140737488351232) (w2 : (Lit.int .u8 a2).wf = true) :
    Calls Try.prog 7 #[.slice A0 a.length c0, .slice A1 b.length c1, .int .u8 a2] w fun e w' => e = .returned (.bool true) ∧ Below w.heap.size w w' := by
  have haw : grapevinelaw07_awake.f = some true := rfl
  by_cases hbig : 24 < a.length ∨ 24 < b.length
  · exact ownB_big A0 c0 a A1 c1 b a2 w hbig haw
  have h0 : a.length ≤ 24 := by omega
  have h1 : b.length ≤ 24 := by omega
  have hL := law_between a b (by omega) (by omega) zb
  have hm := mod_in (x := a2) (n := 10) (u8_nn w2) (by omega) (by omega)
  obtain ⟨ar, har⟩ : ∃ ar, ar = a2 % 10 := ⟨_, rfl⟩
  rw [← har] at hm
  have hT := between_takes a b ar hm.2.1 hL
  have hmost := makeH_most a ar (between a b)
  have hlen := hL.len
  obtain ⟨l, hl⟩ : ∃ l, l = makeH a ar 0 (between a b) := ⟨_, rfl⟩
  have hbe := Between_ev a b ar (by omega) (by omega) hm.2.1 (by omega) za hL
  rw [← hl] at hT hmost hbe
  obtain ⟨m, hm1, hm2⟩ := takes_turn a b l 0 0 hT
  have hml := turned_len hm1
  have hS := takes_small hT (by omega) (by omega) (by omega)
  have hB := takes_big hT (by omega) (by omega) za zb
  have hR : rightP 0 0 l = true := by simpa using takes_right a b l 0 0 hT
  have ht := Texts_ev a a (by omega)
  rw [decide_eq_true rfl] at ht
  have ht2 := Texts_ev b b (by omega)
  rw [decide_eq_true rfl] at ht2
  obtain ⟨k1, e1⟩ := hbe
  obtain ⟨k2, e2⟩ := ATurn_ev hS hB hR hm1
  obtain ⟨k3, e3⟩ := ht
  obtain ⟨k4, e4⟩ := ht2
  refine ownB_small (k1 + k2 + k3 + k4) A0 c0 a A1 c1 b a2 l m w hr0 hc0 hr1 hc1 h0 h1 (by omega) haw ?_ ((apply_some hS).trans (congrArg some (takes_applyP hT))) (e2 _ (by omega)) (e3 _ (by omega)) (e4 _ (by omega))
  rw [hm.1]
  exact e1 _ (by omega)
end Go.Proofs.Ytoaijganmfijmaa.Pr
