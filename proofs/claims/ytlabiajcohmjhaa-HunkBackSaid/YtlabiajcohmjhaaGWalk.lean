/-
diff.walk's contract: between two lists of at most 65536 lines it answers the edits of the way.
-/
import Derived.IntWalk
import Derived.Lib.SlicesS
import Derived.Test.YtlabiajcohmjhaaGOwn
import Derived.Test.YtlabiajcohmjhaaGTable
namespace Go.Proofs.Ytlabiajcohmjhaa.Pr
open Go.RowKit Go.Proofs.YtlabiajcohmjhaaW.PrintWords Go.Proofs.YtlabiajcohmjhaaW.PrintLast Go.Proofs.YtlabiajcohmjhaaW.PrintMore
set_option linter.unusedVariables false
set_option linter.unusedSimpArgs false
theorem ginfoEd : (Try.prog.info? 51).map (fun i => (i.zero, i.size, i.bytes)) = some (some (.agg #[(.int .i64 0), (.int .i64 0), (.slice none 0 0)]), 3, 40) := by kernel_rfl
theorem ginfoStrW : (Try.prog.info? 9).map (fun i => (i.zero, i.size, i.bytes)) = some (some (.string ⟨#[]⟩), 1, 16) := by kernel_rfl
def diff_walk.T14 : Bool × List (List Nat × List Nat) := (true, [([], []), ([], []), ([1], [1]), ([2], [2]), ([3], [3]), ([], []), ([], []), ([5, 6], [5, 6]), ([7], [7]), ([8], [8]), ([4, 9], [4, 9]), ([0, 0, 1, 2, 3, 4, 5, 6, 7, 8, 9, 10], [0]), ([11, 0, 1, 2, 3, 4, 5, 6, 7, 8, 9, 10], [11]), ([12, 10, 10, 0, 1, 2, 3, 4, 5, 6, 7, 8, 9, 10], [10, 12])])
def diff_walk.B14 : List Nat := [0, 0, 2, 6, 14, 0, 0, 96, 224, 480, 1022, 2047, 4095, 8191]
theorem diff_walk.tab14 : rtab .any (opsOf Try.f41 14) = diff_walk.T14 := by kernel_rfl
theorem diff_walk.bits14 : waitsOk diff_walk.T14.2 diff_walk.B14 = true := by kernel_rfl
structure IsTab (x y : List ByteArray) (T : List (List Int)) : Prop where
 len : T.length = x.length + 1
 row : ∀ i, i ≤ x.length → (T.getD i []).length = y.length + 1
 at_ : ∀ i j, i ≤ x.length → j ≤ y.length → (T.getD i []).getD j 0 = (lcsLen (x.drop i) (y.drop j) : Int)
structure WRel (base : Nat) (w : World) (at_ : Int) (x y : List ByteArray) (T : List (List Int)) (AT : Addr) (cT : Nat) (fin : List Ed) (v8 : Value) (i k : Nat) (op : Bool) (out : List Ed) (wr : World) : Prop where
 hi : i ≤ x.length
 hk : k ≤ y.length
 ne : op = true → out ≠ []
 goes : edits (at_ + i) op out (steps (x.drop i) (y.drop k)) = fin
 own : Kd.S k51 51 wr base (fun _ => True) v8 out
 tab : Kd.S (Kd.slice 3 (Kd.int .i64)) 68 wr base (fun _ => True) (.slice (some AT) T.length cT) T
 len : out.length ≤ i + k
 del : ∀ e ∈ out, 0 ≤ e.f1 ∧ e.f1 ≤ i ∧ e.f2.length ≤ k
 bel : Below base w wr
theorem WRel.drewN {base : Nat} {w : World} {at_ : Int} {x y : List ByteArray} {T : List (List Int)} {AT : Addr} {cT : Nat} {fin : List Ed} {v8 : Value} {i k : Nat} {op : Bool} {out : List Ed} {wr : World} (h : WRel base w at_ x y T AT cT fin v8 i k op out wr) (n : Nat) : WRel base w at_ x y T AT cT fin v8 i k op out (wr.drewN n) :=
 ⟨h.hi, h.hk, h.ne, h.goes, Kd.S_drewN h.own n, Kd.S_drewN h.tab n, h.len, h.del, pw_below_drewN h.bel n⟩
structure WMid (base : Nat) (w : World) (T : List (List Int)) (AT : Addr) (cT : Nat) (v8 : Value) (out : List Ed) (wr : World) : Prop where
 own : Kd.S k51 51 wr base (fun _ => True) v8 out
 tab : Kd.S (Kd.slice 3 (Kd.int .i64)) 68 wr base (fun _ => True) (.slice (some AT) T.length cT) T
 bel : Below base w wr
theorem WMid.drewN {base : Nat} {w : World} {T : List (List Int)} {AT : Addr} {cT : Nat} {v8 : Value} {out : List Ed} {wr : World} (h : WMid base w T AT cT v8 out wr) (n : Nat) : WMid base w T AT cT v8 out (wr.drewN n) :=
 ⟨Kd.S_drewN h.own n, Kd.S_drewN h.tab n, pw_below_drewN h.bel n⟩
theorem WMid.drew {base : Nat} {w : World} {T : List (List Int)} {AT : Addr} {cT : Nat} {v8 : Value} {out : List Ed} {wr : World} (h : WMid base w T AT cT v8 out wr) : WMid base w T AT cT v8 out wr.drew :=
 ⟨Kd.S_drew h.own, Kd.S_drew h.tab, below_drew h.bel⟩
theorem at_str {w : World} {A : Option Addr} {xs : List ByteArray} (h : Kd.C Kd.string w A xs.length xs) (i : Nat) (hi : i < xs.length) : ∃ ad, A = some ad ∧ w.cell? (ad.add i) = some (.string xs[i]) := by
 obtain ⟨ad, e, hx⟩ := Kd.at_string h (i : Int) (by omega) (by omega)
 refine ⟨ad, e, ?_⟩
 simpa [rdOf, List.getD_eq_getElem?_getD, List.getElem?_eq_getElem hi] using hx
theorem steps_keep {x y : List ByteArray} {i k : Nat} (h1 : i < x.length) (h2 : k < y.length) (he : x[i] = y[k]) : steps (x.drop i) (y.drop k) = .keep :: steps (x.drop (i + 1)) (y.drop (k + 1)) := by
 rw [List.drop_eq_getElem_cons h1, List.drop_eq_getElem_cons h2, steps, if_pos he]
theorem steps_del_end {x y : List ByteArray} {i k : Nat} (h1 : i < x.length) (h2 : ¬ k < y.length) : steps (x.drop i) (y.drop k) = .del :: steps (x.drop (i + 1)) (y.drop k) := by
 rw [List.drop_eq_getElem_cons h1, List.drop_of_length_le (by omega : y.length ≤ k), steps]
theorem steps_ins_end {x y : List ByteArray} {i k : Nat} (h1 : ¬ i < x.length) (h2 : k < y.length) : steps (x.drop i) (y.drop k) = .ins y[k] :: steps (x.drop i) (y.drop (k + 1)) := by
 rw [List.drop_eq_getElem_cons h2, List.drop_of_length_le (by omega : x.length ≤ i), steps]
theorem steps_del {x y : List ByteArray} {i k : Nat} (h1 : i < x.length) (h2 : k < y.length) (he : x[i] ≠ y[k]) (hl : lcsLen (x.drop i) (y.drop (k + 1)) ≤ lcsLen (x.drop (i + 1)) (y.drop k)) : steps (x.drop i) (y.drop k) = .del :: steps (x.drop (i + 1)) (y.drop k) := by
 rw [List.drop_eq_getElem_cons h1, List.drop_eq_getElem_cons h2] at hl ⊢
 rw [steps, if_neg he, if_pos hl]
theorem steps_ins {x y : List ByteArray} {i k : Nat} (h1 : i < x.length) (h2 : k < y.length) (he : x[i] ≠ y[k]) (hl : ¬ lcsLen (x.drop i) (y.drop (k + 1)) ≤ lcsLen (x.drop (i + 1)) (y.drop k)) : steps (x.drop i) (y.drop k) = .ins y[k] :: steps (x.drop i) (y.drop (k + 1)) := by
 rw [List.drop_eq_getElem_cons h1, List.drop_eq_getElem_cons h2] at hl ⊢
 rw [steps, if_neg he, if_neg hl]
theorem add_succ_at (a : Addr) (k : Nat) : a.add (k + 1) = ⟨a.block, a.off + (k + 1), none⟩ := by unfold Addr.add; rw [if_neg (by omega)]
theorem tab_at {W : World} {base gT cT : Nat} {x y : List ByteArray} {T : List (List Int)} (h : Kd.S (Kd.slice 3 (Kd.int .i64)) 68 W base (fun _ => True) (.slice (some ⟨gT, 0, none⟩) T.length cT) T) (hI : IsTab x y T) (i j : Nat) (hi : i ≤ x.length) (hj : j ≤ y.length) :
  ∃ (Ar : Addr) (cr nr : Nat), nr = y.length + 1 ∧ W.cell? ⟨gT, i, none⟩ = some (.slice (some Ar) nr cr) ∧ W.cell? (Ar.add j) = some (.int .i64 (lcsLen (x.drop i) (y.drop j))) := by
 have hC := (Kd.S_reads' h).2.2
 obtain ⟨ad, c, e, _, hK, hc0⟩ := Kd.C_get hC ([] : List Int) (i : Int) (by omega) (by rw [hI.len]; omega)
 cases e
 have hc : ∀ q u, c[q]? = some u → W.cell? ((⟨gT, 0, none⟩ : Addr).add ((i : Int).toNat * 1 + q)) = some u := hc0
 obtain ⟨A0, c0, rfl, l0, g0⟩ := hK
 have h0 := hc 0 _ rfl
 rw [Int.toNat_natCast, Nat.mul_one, Nat.add_zero, add_plain] at h0
 have hl := hI.row i hi
 rw [Int.toNat_natCast] at g0
 obtain ⟨ad2, e2, hx2⟩ := Kd.at_int g0 (j : Int) (by omega) (by rw [hl]; omega)
 subst e2
 rw [hl] at h0
 refine ⟨ad2, c0, _, rfl, h0, ?_⟩
 rw [Int.toNat_natCast] at hx2
 rw [hx2, rd, Int.toNat_natCast, hI.at_ i j hi hj]
theorem edLast_mem {out : List Ed} (h : out ≠ []) : edLast out ∈ out := by
 have hl : 0 < out.length := List.length_pos_iff.2 h
 unfold edLast
 rw [List.getD_eq_getElem?_getD, List.getElem?_eq_getElem (by omega)]
 exact List.getElem_mem _
theorem opened_del {at_ : Int} {op : Bool} {out : List Ed} {i k : Nat} (h : ∀ e ∈ out, 0 ≤ e.f1 ∧ e.f1 ≤ i ∧ e.f2.length ≤ k) : ∀ e ∈ opened at_ op out, 0 ≤ e.f1 ∧ e.f1 ≤ i ∧ e.f2.length ≤ k := by
 intro e he
 unfold opened at he
 split at he
 ·exact h e he
 ·rcases List.mem_append.1 he with he | he
  ·exact h e he
  ·simp at he; subst he; simp
theorem mem_addDel {out : List Ed} (hne : out ≠ []) {e : Ed} (he : e ∈ addDel out) : e ∈ out ∨ e = ⟨(edLast out).f0, (edLast out).f1 + 1, (edLast out).f2⟩ := by
 unfold addDel at he; exact (List.mem_or_eq_of_mem_set he)
theorem mem_addIns {s : ByteArray} {out : List Ed} (hne : out ≠ []) {e : Ed} (he : e ∈ addIns s out) : e ∈ out ∨ e = ⟨(edLast out).f0, (edLast out).f1, (edLast out).f2 ++ [s]⟩ := by
 unfold addIns at he; exact (List.mem_or_eq_of_mem_set he)
theorem opened_len (at_ : Int) (op : Bool) (out : List Ed) : (opened at_ op out).length ≤ out.length + 1 := by
 unfold opened; split <;> simp
theorem addDel_len (out : List Ed) : (addDel out).length = out.length := by simp [addDel]
theorem addIns_len (s : ByteArray) (out : List Ed) : (addIns s out).length = out.length := by simp [addIns]
set_option maxRecDepth 100000 in
set_option maxHeartbeats 4000000 in
theorem diff_walk.calls (kt : Nat) (at_ : Int) (A1 : Option Addr) (c1 : Nat) (x : List ByteArray) (A2 : Option Addr) (c2 : Nat) (y : List ByteArray) (T : List (List Int)) (w : World)
  (hr1 : Kd.C Kd.string w A1 x.length x) (hc1 : x.length ≤ c1) (hr2 : Kd.C Kd.string w A2 y.length y) (hc2 : y.length ≤ c2)
  (hat : 0 ≤ at_) (hat2 : at_ ≤ 4398046511104) (hx : x.length ≤ 65536) (hy : y.length ≤ 65536) (hT : diff_table.f kt x y = some T) (hI : IsTab x y T) :
  Calls Try.prog 41 #[.int .i64 at_, .slice A1 x.length c1, .slice A2 y.length c2] w fun e w' => ∃ v0_ : Value, e = .returned (v0_) ∧ Kd.S k51 51 w' w.heap.size (fun _ => True) v0_ (edits at_ false [] (steps x y)) ∧ Below w.heap.size w w' := by
 have HR1 := Aside0.mk hr1
 have HC1 := Aside0.mk hc1
 have HR2 := Aside0.mk hr2
 have HC2 := Aside0.mk hc2
 have HT := Aside0.mk hT
 have HI := Aside0.mk hI
 clear hr1 hc1 hr2 hc2 hT hI
 go_enter Try.func41, Try.ntmps41
 go_wp2_with (go_at_call 43; (with_reducible refine (diff_table.calls kt _ _ x _ _ y T _ HR1.out HC1.out HR2.out HC2.out HT.out).mono ?_); rintro e w1 ⟨v1, rfl, ho, hb⟩; obtain ⟨gT, cT, eT, _⟩ := Kd.S_form ho (by have := HI.out.len; omega); subst eT; have HO := Aside0.mk ho; have HB := Aside0.mk hb; clear ho hb)
 go_loopg [8, 9, 10, 11] (x.length + y.length) (fun kq v8 v9 v10 v11 wr => ∃ (i k : Nat) (op : Bool) (out : List Ed), v9 = .bool op ∧ v10 = .int .i64 i ∧ v11 = .int .i64 k ∧ Aside0 (x.length + y.length ≤ kq + i + k) ∧ Aside0 (WRel w.heap.size w at_ x y T ⟨gT, 0, none⟩ cT (edits at_ false [] (steps x y)) v8 i k op out wr))
 case atStart => exact ⟨0, 0, false, [], rfl, rfl, rfl, ⟨by omega⟩, ⟨⟨Nat.zero_le _, Nat.zero_le _, (by simp), (by simp), Kd.S_nil _ _ _ _ _, HO.out, (by simp), (by simp), HB.out⟩⟩⟩
 case round =>
  clear HO HB HT
  obtain ⟨i, k, op, out, rfl, rfl, rfl, HQ, HW⟩ := hrel
  have hi := HW.out.hi
  have hk := HW.out.hk
  by_cases hend : i = x.length ∧ k = y.length
  ·obtain ⟨hi2, hk2⟩ := hend
   have f3 : decide (i < x.length) = false := by simp; omega
   have f4 : decide (k < y.length) = false := by simp; omega
   have HF := Aside0.mk (show out = edits at_ false [] (steps x y) by
    have h := HW.out.goes
    rw [hi2, hk2, List.drop_length, List.drop_length] at h
    simpa [steps, edits] using h)
   clear hi2 hk2
   go_wp2
   go_ret
   exact ⟨_, rfl, by rw [← HF.out]; exact HW.out.own, HW.out.bel⟩
  ·obtain ⟨gk', HG⟩ : ∃ m, Aside0 (gk = m + 1) := ⟨gk - 1, ⟨by have := HQ.out; omega⟩⟩
   by_cases heq : ∃ (h1 : i < x.length) (h2 : k < y.length), x[i] = y[k]
   ·obtain ⟨h1, h2, he⟩ := heq
    obtain ⟨ad1, e1, hx1⟩ := at_str (Kd.C_below HR1.out HW.out.bel) i h1
    obtain ⟨ad2, e2, hx2⟩ := at_str (Kd.C_below HR2.out HW.out.bel) k h2
    cases e1
    cases e2
    have f3 : decide (i < x.length) = true := by simp; omega
    have f4 : decide (k < y.length) = true := by simp; omega
    have g1 : (i : Int) < (x.length : Int) := by omega
    have g2 : (k : Int) < (y.length : Int) := by omega
    have f5 : ((x[i]).toList == (y[k]).toList) = true := (Lib.bytes_beq_iff _ _).2 he
    have HK := Aside0.mk (steps_keep h1 h2 he)
    generalize x[i] = s1 at *
    generalize y[k] = s2 at *
    clear hend he
    go_wp2
    go_quiet (fail)
    go_wp2
    go_roundg gk'
    case measure => have := HG.out; omega
    case rel =>
     refine ⟨i + 1, k + 1, false, out, rfl, by go_num, by go_num, ⟨by have := HQ.out; have := HG.out; omega⟩, ⟨?_⟩⟩
     have h := HW.out.drewN nq
     exact ⟨by omega, by omega, by simp, by have h3 := HW.out.goes; rw [HK.out] at h3; simpa [edits, Int.add_assoc] using h3, h.own, h.tab, by have := h.len; omega, fun e he => by have := h.del e he; omega, h.bel⟩
   ·by_cases h1 : i < x.length
    ·by_cases h2 : k < y.length
     ·have he : x[i] ≠ y[k] := fun h => heq ⟨h1, h2, h⟩
      clear heq hend
      by_cases hl : lcsLen (x.drop i) (y.drop (k + 1)) ≤ lcsLen (x.drop (i + 1)) (y.drop k)
      ·skip
       -- del
       obtain ⟨ad1, e1, hx1⟩ := at_str (Kd.C_below HR1.out HW.out.bel) i h1
       obtain ⟨ad2, e2, hx2⟩ := at_str (Kd.C_below HR2.out HW.out.bel) k h2
       cases e1
       cases e2
       have f3 : decide (i < x.length) = true := by simp; omega
       have f4 : decide (k < y.length) = true := by simp; omega
       have g1 : (i : Int) < (x.length : Int) := by omega
       have g2 : (k : Int) < (y.length : Int) := by omega
       have f5 : ((x[i]).toList == (y[k]).toList) = false := (Lib.bytes_beq_false_iff _ _).2 he
       have HK := Aside0.mk (steps_del h1 h2 he hl)
       have HLn := Aside0.mk (show out.length ≤ 131072 by have := HW.out.len; omega)
       clear he
       go_upto_if 52 with (fail)
       go_quiet (fail)
       go_upto_if 52 with (fail)
       have HM := Aside0.mk (WMid.mk (HW.out.drewN nq).own (HW.out.drewN nq).tab (HW.out.drewN nq).bel)
       go_cut [8, 9] (fun v8 v9 wc => v9 = .bool true ∧ Aside0 (WMid w.heap.size w T ⟨gT, 0, none⟩ cT v8 (opened (at_ + i) op out) wc))
       case first =>
        cases op
        ·go_wp2_with (first | ((with_reducible refine gate_builtin (b := .append) (xs := #[.tmp 53, .tmp 58]) rfl ?_); at_builtin; refine Kd.S_append k51 (w0 := w) w.heap.size rfl (.tmp 53) (.tmp 58) 23 51 (.agg #[(.int .i64 0), (.int .i64 0), (.slice none 0 0)]) 40 rfl Try.underlying23 ginfoEd rfl (by decide) (by omega) _ out (⟨at_ + i, 0, []⟩ : Ed) [.int .i64 (at_ + i), .int .i64 0, .slice none 0 0] (fun _ => True) (fun _ => False) rfl rfl (k51_mkM _ _ _ (⟨at_ + i, 0, []⟩ : Ed) (Kd.R_nil _ _ _ _ _)) (fun _ h => h.elim) (fun _ _ => trivial) (Kd.S_mono HM.out.own (fun _ _ => ⟨trivial, id⟩)) HM.out.bel HM.out.bel.size (by have := HLn.out; omega) ?_; intro v2 w2 ho hb hg hat; have HM2 := Aside0.mk (WMid.mk (T := T) (AT := ⟨gT, 0, none⟩) (cT := cT) ho (Kd.S_over' HM.out.tab (Kd.S_typed HM.out.own) (by decide) hg) hb); clear ho hb hg hat))
         go_meet
         exact ⟨rfl, HM2⟩
        ·go_wp2
         go_meet
         exact ⟨rfl, HM⟩
       case rest =>
        clear HM f3 f4 f5
        obtain ⟨rfl, HM⟩ := hcut
        have HON := Aside0.mk (opened_ne (at_ + i) op out HW.out.ne)
        have HOL := Aside0.mk (show (opened (at_ + i) op out).length ≤ i + k + 1 by have := opened_len (at_ + i) op out; have := HW.out.len; omega)
        have HOD := Aside0.mk (opened_del (at_ := at_ + i) (op := op) HW.out.del)
        have HGO := Aside0.mk (show edits (at_ + i) op out (steps (x.drop i) (y.drop k)) = _ from HW.out.goes)
        rw [HK.out] at HGO
        simp only [edits] at HGO
        clear HW HK HLn
        generalize opened (at_ + i) op out = out' at *
        have hp : 0 < out'.length := List.length_pos_iff.2 HON.out
        have hp2 : out'.length ≤ 131073 := by have := HOL.out; omega
        obtain ⟨g, cap, ev, hgb, hgl, HGc⟩ := Kd.S_form HM.out.own hp
        subst ev
        obtain ⟨jl, hjl⟩ : ∃ j : Int, j = (out'.length : Int) - 1 := ⟨_, rfl⟩
        have kj : IntKind.i64.wrap ((out'.length : Int) - 1) = jl := by rw [hjl]; exact IntWalk.i64_in _ (by omega)
        have j0 : 0 ≤ jl := by omega
        have j1 : jl < (out'.length : Int) := by omega
        have HJ := Aside0.mk (show jl.toNat = out'.length - 1 by omega)
        have GB := Aside0.mk hgb
        clear hjl hgl hgb HGc
        obtain ⟨Ar1, cr1, nr1, hn1, ht1, ht2⟩ := tab_at HM.out.tab HI.out (i + 1) k (by omega) (by omega)
        obtain ⟨Ar2, cr2, nr2, hn2, ht3, ht4⟩ := tab_at HM.out.tab HI.out i (k + 1) (by omega) (by omega)
        have ht5 : wc.cell? ⟨Ar2.block, Ar2.off + (k + 1), none⟩ = some (.int .i64 (lcsLen (x.drop i) (y.drop (k + 1)))) := by rw [← add_succ_at]; exact ht4
        generalize lcsLen (x.drop (i + 1)) (y.drop k) = l1 at *
        generalize lcsLen (x.drop i) (y.drop (k + 1)) = l2 at *
        have HTl := HI.out.len
        have g3 : (i : Int) + 1 < (T.length : Int) := by omega
        have g4 : (k : Int) < (nr1 : Int) := by omega
        have g5 : (k : Int) + 1 < (nr2 : Int) := by omega
        have g6 : (i : Int) < (T.length : Int) := by omega
        have k1 : IntKind.i64.wrap ((i : Int) + 1) = (i : Int) + 1 := IntWalk.i64_in _ (by omega)
        have k2 : IntKind.i64.wrap ((k : Int) + 1) = (k : Int) + 1 := IntWalk.i64_in _ (by omega)
        have k3 : (0 : Int) ≤ (i : Int) + 1 := by omega
        have k4 : (0 : Int) ≤ (k : Int) + 1 := by omega
        have k5 : ((i : Int) + 1).toNat = i + 1 := by omega
        have k6 : ((k : Int) + 1).toNat = k + 1 := by omega
        have g7 : i + 1 < T.length := by omega
        have g8 : k + 1 < nr2 := by omega
        clear HTl hn1 hn2
        have f1 : ((k : Int) == (y.length : Int)) = false := beq_eq_false_iff_ne.2 (by omega)
        have f2 : (k == y.length) = false := beq_eq_false_iff_ne.2 (by omega)
        have f3 : decide (i < x.length) = true := by simp; omega
        have f4 : decide ((l2 : Int) ≤ (l1 : Int)) = true := by simp; omega
        have f6 : decide (l2 ≤ l1) = true := by simp; omega
        go_wp2
        go_quiet (fail)
        have HM3 := Aside0.mk (HM.out.drewN nq)
        obtain ⟨hd1, hd2, hd3, hd4⟩ := own_del HM3.out.own HON.out j0 HJ.out
        have HD3 := Aside0.mk hd3
        have HEL := HOD.out _ (edLast_mem HON.out)
        have hb1 : 0 ≤ (edLast out').f1 := HEL.1
        have hb2 : (edLast out').f1 ≤ 65536 := by have := HEL.2.1; omega
        have HE2 := Aside0.mk HEL
        clear hd3 hd4 HEL
        obtain ⟨cg, hcg⟩ : ∃ cells, (wc.drewN nq).heap[g]? = some (.cells cells 51 (0, 0)) := Kd.S_typed HM3.out.own g rfl
        have HCG := Aside0.mk hcg
        clear hcg
        go_wp2
        go_roundg gk'
        case measure => have := HG.out; omega
        case rel =>
         refine ⟨i + 1, k, true, addDel out', rfl, by go_num, rfl, ⟨by have := HQ.out; have := HG.out; omega⟩, ⟨?_⟩⟩
         refine ⟨by omega, by omega, fun _ => addDel_ne _ HON.out, by have h := HGO.out; rw [Int.add_assoc] at h; exact h, ?_, Kd.S_set HM3.out.tab HCG.out (by decide) _ _, by rw [addDel_len]; have := HOL.out; omega, ?_, below_set HM3.out.bel GB.out⟩
         ·have h := HD3.out
          have h2 := addDel_len out'
          exact h
         ·intro e he
          rcases mem_addDel HON.out he with he | rfl
          ·have := HOD.out e he; omega
          ·have := HE2.out; exact ⟨by show 0 ≤ _ + _; omega, by show _ + _ ≤ _; omega, this.2.2⟩
      ·skip
       -- ins
       obtain ⟨ad1, e1, hx1⟩ := at_str (Kd.C_below HR1.out HW.out.bel) i h1
       obtain ⟨ad2, e2, hx2⟩ := at_str (Kd.C_below HR2.out HW.out.bel) k h2
       cases e1
       cases e2
       have f3 : decide (i < x.length) = true := by simp; omega
       have f4 : decide (k < y.length) = true := by simp; omega
       have g1 : (i : Int) < (x.length : Int) := by omega
       have g2 : (k : Int) < (y.length : Int) := by omega
       have f5 : ((x[i]).toList == (y[k]).toList) = false := (Lib.bytes_beq_false_iff _ _).2 he
       have HK := Aside0.mk (steps_ins h1 h2 he hl)
       have HLn := Aside0.mk (show out.length ≤ 131072 by have := HW.out.len; omega)
       clear he
       go_upto_if 52 with (fail)
       go_quiet (fail)
       go_upto_if 52 with (fail)
       have HM := Aside0.mk (WMid.mk (HW.out.drewN nq).own (HW.out.drewN nq).tab (HW.out.drewN nq).bel)
       go_cut [8, 9] (fun v8 v9 wc => v9 = .bool true ∧ Aside0 (WMid w.heap.size w T ⟨gT, 0, none⟩ cT v8 (opened (at_ + i) op out) wc))
       case first =>
        cases op
        ·go_wp2_with (first | ((with_reducible refine gate_builtin (b := .append) (xs := #[.tmp 53, .tmp 58]) rfl ?_); at_builtin; refine Kd.S_append k51 (w0 := w) w.heap.size rfl (.tmp 53) (.tmp 58) 23 51 (.agg #[(.int .i64 0), (.int .i64 0), (.slice none 0 0)]) 40 rfl Try.underlying23 ginfoEd rfl (by decide) (by omega) _ out (⟨at_ + i, 0, []⟩ : Ed) [.int .i64 (at_ + i), .int .i64 0, .slice none 0 0] (fun _ => True) (fun _ => False) rfl rfl (k51_mkM _ _ _ (⟨at_ + i, 0, []⟩ : Ed) (Kd.R_nil _ _ _ _ _)) (fun _ h => h.elim) (fun _ _ => trivial) (Kd.S_mono HM.out.own (fun _ _ => ⟨trivial, id⟩)) HM.out.bel HM.out.bel.size (by have := HLn.out; omega) ?_; intro v2 w2 ho hb hg hat; have HM2 := Aside0.mk (WMid.mk (T := T) (AT := ⟨gT, 0, none⟩) (cT := cT) ho (Kd.S_over' HM.out.tab (Kd.S_typed HM.out.own) (by decide) hg) hb); clear ho hb hg hat))
         go_meet
         exact ⟨rfl, HM2⟩
        ·go_wp2
         go_meet
         exact ⟨rfl, HM⟩
       case rest =>
        clear HM f3 f4 f5
        obtain ⟨rfl, HM⟩ := hcut
        have HON := Aside0.mk (opened_ne (at_ + i) op out HW.out.ne)
        have HOL := Aside0.mk (show (opened (at_ + i) op out).length ≤ i + k + 1 by have := opened_len (at_ + i) op out; have := HW.out.len; omega)
        have HOD := Aside0.mk (opened_del (at_ := at_ + i) (op := op) HW.out.del)
        have HGO := Aside0.mk (show edits (at_ + i) op out (steps (x.drop i) (y.drop k)) = _ from HW.out.goes)
        rw [HK.out] at HGO
        simp only [edits] at HGO
        clear HW HK HLn
        generalize opened (at_ + i) op out = out' at *
        have hp : 0 < out'.length := List.length_pos_iff.2 HON.out
        have hp2 : out'.length ≤ 131073 := by have := HOL.out; omega
        obtain ⟨g, cap, ev, hgb, hgl, HGc⟩ := Kd.S_form HM.out.own hp
        subst ev
        obtain ⟨jl, hjl⟩ : ∃ j : Int, j = (out'.length : Int) - 1 := ⟨_, rfl⟩
        have kj : IntKind.i64.wrap ((out'.length : Int) - 1) = jl := by rw [hjl]; exact IntWalk.i64_in _ (by omega)
        have j0 : 0 ≤ jl := by omega
        have j1 : jl < (out'.length : Int) := by omega
        have HJ := Aside0.mk (show jl.toNat = out'.length - 1 by omega)
        have GB := Aside0.mk hgb
        clear hjl hgl hgb HGc
        obtain ⟨Ar1, cr1, nr1, hn1, ht1, ht2⟩ := tab_at HM.out.tab HI.out (i + 1) k (by omega) (by omega)
        obtain ⟨Ar2, cr2, nr2, hn2, ht3, ht4⟩ := tab_at HM.out.tab HI.out i (k + 1) (by omega) (by omega)
        have ht5 : wc.cell? ⟨Ar2.block, Ar2.off + (k + 1), none⟩ = some (.int .i64 (lcsLen (x.drop i) (y.drop (k + 1)))) := by rw [← add_succ_at]; exact ht4
        generalize lcsLen (x.drop (i + 1)) (y.drop k) = l1 at *
        generalize lcsLen (x.drop i) (y.drop (k + 1)) = l2 at *
        have HTl := HI.out.len
        have g3 : (i : Int) + 1 < (T.length : Int) := by omega
        have g4 : (k : Int) < (nr1 : Int) := by omega
        have g5 : (k : Int) + 1 < (nr2 : Int) := by omega
        have g6 : (i : Int) < (T.length : Int) := by omega
        have k1 : IntKind.i64.wrap ((i : Int) + 1) = (i : Int) + 1 := IntWalk.i64_in _ (by omega)
        have k2 : IntKind.i64.wrap ((k : Int) + 1) = (k : Int) + 1 := IntWalk.i64_in _ (by omega)
        have k3 : (0 : Int) ≤ (i : Int) + 1 := by omega
        have k4 : (0 : Int) ≤ (k : Int) + 1 := by omega
        have k5 : ((i : Int) + 1).toNat = i + 1 := by omega
        have k6 : ((k : Int) + 1).toNat = k + 1 := by omega
        have g7 : i + 1 < T.length := by omega
        have g8 : k + 1 < nr2 := by omega
        clear HTl hn1 hn2
        have f1 : ((k : Int) == (y.length : Int)) = false := beq_eq_false_iff_ne.2 (by omega)
        have f2 : (k == y.length) = false := beq_eq_false_iff_ne.2 (by omega)
        have f3 : decide (i < x.length) = true := by simp; omega
        have f4 : decide ((l2 : Int) ≤ (l1 : Int)) = false := by simp; omega
        have f6 : decide (l2 ≤ l1) = false := by simp; omega
        go_wp2
        go_quiet (fail)
        have HM3 := Aside0.mk (HM.out.drewN nq)
        have hx2w := Aside0.mk (at_str HR2.out k h2)
        obtain ⟨vi, Ai, ci, oki, evi, hs0, hri, hfr, hvg, hins⟩ := own_ins (y[k]) HM3.out.drew.own HON.out j0 HJ.out
        subst evi
        have hs1 : ((wc.drewN nq).drew).cell? (ad2.add k) = some (.string y[k]) := by obtain ⟨ad3, e3, h3⟩ := hx2w.out; cases e3; exact pw_cell_below HM3.out.drew.bel h3
        have HRI := Aside0.mk hri
        have HFR := Aside0.mk hfr
        have HIN := Aside0.mk hins
        have HM4 := Aside0.mk HM3.out.drew
        have HE2 := Aside0.mk (HOD.out _ (edLast_mem HON.out))
        have hel : (edLast out').f2.length ≤ 65536 := by have := HE2.out; omega
        clear hri hfr hins hvg hx2
        have HS2 := Aside0.mk (show ∀ W' : World, Below w.heap.size w W' → W'.cell? (ad2.add k) = some (.string y[k]) from fun W' hW => by obtain ⟨ad3, e3, h3⟩ := hx2w.out; cases e3; exact pw_cell_below hW h3)
        clear hx2w
        generalize y[k] = s2 at *
        go_wp2
        refine start_ (n := 14) (S := fun w' => w'.cell? ⟨g, jl.toNat * 3 + 2, none⟩ = some (.slice Ai (edLast out').f2.length ci) ∧ w'.cell? (ad2.add k) = some (.string s2)) (ds := [13]) #[false, false, false, false, false, false, false, false, false, false, false, false, false, false] (by kernel_rfl) rfl rfl ⟨hs0, hs1⟩ (fun hHeld => ?_)
        refine with_tabW diff_walk.tab14 diff_walk.bits14 (fun HT_ HW_ => ?_)
        generalize (wc.drewN nq).drew = w3 at HM4 HRI HFR HIN hs0 hs1 hHeld ⊢
        refine pure_ (i := 0) (N := some 103) (v := ?_) (a' := ?_) #[true, false, false, false, false, false, false, false, false, false, false, false, false, false] rfl rfl (any_of HT_.out (by kernel_rfl)) (fun _ _ _ h => h) (Or.inl ⟨by rfl, ?_⟩) ?_ ?_
        rotate_left
        ·intro w'
         go_simp
         with_reducible rfl
        rotate_left
        ·simp only [Act.put, List.setIfInBounds_toArray, List.set_cons_zero, List.set_cons_succ, i64_w, i32_w]
         rfl
        refine pure_ (i := 1) (N := some 104) (v := ?_) (a' := ?_) #[true, true, false, false, false, false, false, false, false, false, false, false, false, false] rfl rfl (any_of HT_.out (by kernel_rfl)) (fun _ _ _ h => h) (Or.inl ⟨by rfl, ?_⟩) ?_ ?_
        rotate_left
        ·intro w'
         go_simp
         with_reducible rfl
        rotate_left
        ·simp only [Act.put, List.setIfInBounds_toArray, List.set_cons_zero, List.set_cons_succ, i64_w, i32_w]
         rfl
        refine pure_ (i := 2) (N := some 105) (v := ?_) (a' := ?_) #[true, true, true, false, false, false, false, false, false, false, false, false, false, false] rfl rfl (any_of HT_.out (by kernel_rfl)) (fun _ _ _ h => h) (Or.inl ⟨by rfl, ?_⟩) ?_ ?_
        rotate_left
        ·intro w'
         go_simp
         with_reducible rfl
        rotate_left
        ·simp only [Act.put, List.setIfInBounds_toArray, List.set_cons_zero, List.set_cons_succ, i64_w, i32_w]
         rfl
        refine pure_ (i := 3) (N := some 106) (v := ?_) (a' := ?_) #[true, true, true, true, false, false, false, false, false, false, false, false, false, false] rfl rfl (any_of HT_.out (by kernel_rfl)) (fun _ _ _ h => h) (Or.inl ⟨by rfl, ?_⟩) ?_ ?_
        rotate_left
        ·intro w'
         go_simp
         with_reducible rfl
        rotate_left
        ·simp only [Act.put, List.setIfInBounds_toArray, List.set_cons_zero, List.set_cons_succ, i64_w, i32_w]
         rfl
        refine pure_ (i := 5) (N := some 108) (v := ?_) (a' := ?_) #[true, true, true, true, false, true, false, false, false, false, false, false, false, false] rfl rfl (any_of HT_.out (by kernel_rfl)) (fun _ _ _ h => h) (Or.inl ⟨by rfl, ?_⟩) ?_ ?_
        rotate_left
        ·intro w'
         go_simp
         with_reducible rfl
        rotate_left
        ·simp only [Act.put, List.setIfInBounds_toArray, List.set_cons_zero, List.set_cons_succ, i64_w, i32_w]
         rfl
        refine pure_ (i := 6) (N := some 109) (v := ?_) (a' := ?_) #[true, true, true, true, false, true, true, false, false, false, false, false, false, false] rfl rfl (any_of HT_.out (by kernel_rfl)) (fun _ _ _ h => h) (Or.inl ⟨by rfl, ?_⟩) ?_ ?_
        rotate_left
        ·intro w'
         go_simp
         with_reducible rfl
        rotate_left
        ·simp only [Act.put, List.setIfInBounds_toArray, List.set_cons_zero, List.set_cons_succ, i64_w, i32_w]
         rfl
        refine pure_ (i := 7) (N := some 110) (v := ?_) (a' := ?_) #[true, true, true, true, false, true, true, true, false, false, false, false, false, false] rfl rfl (any_of HT_.out (by kernel_rfl)) (fun _ _ _ h => h) (Or.inl ⟨by rfl, ?_⟩) ?_ ?_
        rotate_left
        ·intro w'
         go_simp
         with_reducible rfl
        rotate_left
        ·simp only [Act.put, List.setIfInBounds_toArray, List.set_cons_zero, List.set_cons_succ, i64_w, i32_w]
         rfl
        refine take_ (i := 4) (N := some 107) (v := ?_) (a' := ?_) #[true, true, true, true, true, true, true, true, false, false, false, false, false, false] rfl rfl (take_ofW HT_.out HW_.out (by kernel_rfl)) (fun _ _ _ h => h) (Or.inl ⟨by rfl, ?_⟩) hHeld ?_ ?_
        rotate_left
        ·rintro w' ⟨s0, s1⟩
         go_simp
         with_reducible rfl
        rotate_left
        ·simp only [Act.put, List.setIfInBounds_toArray, List.set_cons_zero, List.set_cons_succ, i64_w, i32_w]
         rfl
        refine take_ (i := 8) (N := some 111) (v := ?_) (a' := ?_) #[true, true, true, true, true, true, true, true, true, false, false, false, false, false] rfl rfl (take_ofW HT_.out HW_.out (by kernel_rfl)) (fun _ _ _ h => h) (Or.inl ⟨by rfl, ?_⟩) hHeld ?_ ?_
        rotate_left
        ·rintro w' ⟨s0, s1⟩
         go_simp
         with_reducible rfl
        rotate_left
        ·simp only [Act.put, List.setIfInBounds_toArray, List.set_cons_zero, List.set_cons_succ, i64_w, i32_w]
         rfl
        refine one_ (i := 9) (N := some 112) #[true, true, true, true, true, true, true, true, true, true, false, false, false, false] rfl rfl (one_of HT_.out (by kernel_rfl)) (by decide) (fun K hK => ?_)
        refine value_ (w1 := ?_) (v := ?_) (by rfl) rfl ?_ ?_
        rotate_left 2
        ·go_simp
         constructor
         ·rfl
         ·rfl
        refine hK.out _ _ ⟨(pw_cell_below (below_alloc (Below.refl _ _) _) hs0), (pw_cell_below (below_alloc (Below.refl _ _) _) hs1)⟩ (fun hHeld => ?_)
        clear hK K
        refine norm_ (a' := ?_) ?_ ?_
        rotate_left
        ·show Act.put _ (some 112) _ = _
         simp only [Act.put, List.setIfInBounds_toArray, List.set_cons_zero, List.set_cons_succ, i64_w, i32_w]
         rfl
        refine one_ (i := 10) (N := some 113) #[true, true, true, true, true, true, true, true, true, true, true, false, false, false] rfl rfl (one_of HT_.out (by kernel_rfl)) (by decide) (fun K hK => ?_)
        refine Kd.R_append_step Kd.string (w0 := w) w.heap.size (by rfl) (.tmp 107) (.tmp 112) 22 9 (.string ⟨#[]⟩) 16 rfl Try.underlying22 ginfoStrW rfl (by decide) (by omega) (.slice Ai (edLast out').f2.length ci) (edLast out').f2 s2 [.string s2] oki (fun _ => False) rfl rfl rfl (fun _ h => h.elim) HFR.out HRI.out HM4.out.bel HM4.out.bel.size (by omega) ?_
        intro v3 w5 ho hb hg hat
        obtain ⟨A3, c3, e3⟩ := Kd.R_slice ho
        rw [List.length_append, List.length_singleton] at e3
        subst e3
        obtain ⟨hc3, hf3, hS3, hg3, cg, hcg⟩ := HIN.out w3 w5 _ (Below.refl _ _) hg ho
        have HT5 := Aside0.mk (Kd.S_over' HM4.out.tab (Kd.R_typed HRI.out) (by decide) hg)
        have HB5 := Aside0.mk hb
        have HS5 := Aside0.mk hS3
        have HCG := Aside0.mk hcg
        have hs1' := HS2.out w5 hb
        clear ho hb hg hat hS3 hg3 hcg hs0 hs1
        refine hK.out _ _ ⟨hc3, hs1'⟩ (fun hHeld => ?_)
        clear hK K
        refine norm_ (a' := ?_) ?_ ?_
        rotate_left
        ·show Act.put _ (some 113) _ = _
         simp only [Act.put, List.setIfInBounds_toArray, List.set_cons_zero, List.set_cons_succ, i64_w, i32_w]
         rfl
        refine pure_ (i := 11) (N := some 114) (v := ?_) (a' := ?_) #[true, true, true, true, true, true, true, true, true, true, true, true, false, false] rfl rfl (any_of HT_.out (by kernel_rfl)) (fun _ _ _ h => h) (Or.inl ⟨by rfl, ?_⟩) ?_ ?_
        rotate_left
        ·intro w'
         go_simp
         with_reducible rfl
        rotate_left
        ·simp only [Act.put, List.setIfInBounds_toArray, List.set_cons_zero, List.set_cons_succ, i64_w, i32_w]
         rfl
        refine pure_ (i := 12) (N := some 115) (v := ?_) (a' := ?_) #[true, true, true, true, true, true, true, true, true, true, true, true, true, false] rfl rfl (any_of HT_.out (by kernel_rfl)) (fun _ _ _ h => h) (Or.inl ⟨by rfl, ?_⟩) ?_ ?_
        rotate_left
        ·intro w'
         go_simp
         with_reducible rfl
        rotate_left
        ·simp only [Act.put, List.setIfInBounds_toArray, List.set_cons_zero, List.set_cons_succ, i64_w, i32_w]
         rfl
        refine last_ (i := 13) (N := none) #[true, true, true, true, true, true, true, true, true, true, true, true, true, true] rfl rfl (one_of HT_.out (by kernel_rfl)) (by decide) (fun K hK => ?_)
        refine skip_ (w1 := ?_) (by rfl) rfl ?_ ?_
        rotate_left
        ·go_simp
         rfl
        refine hK.out _ _ ?_
        clear hK K
        refine done_ (done_of HT_.out (by kernel_rfl)) ?_

        go_wp2
        go_roundg gk'
        case measure => have := HG.out; omega
        case rel =>
         refine ⟨i, k + 1, true, addIns s2 out', rfl, rfl, by go_num, ⟨by have := HQ.out; have := HG.out; omega⟩, ⟨?_⟩⟩
         refine ⟨by omega, by omega, fun _ => addIns_ne _ _ HON.out, HGO.out, HS5.out, Kd.S_set HT5.out HCG.out (by decide) _ _, by rw [addIns_len]; have := HOL.out; omega, ?_, below_set HB5.out GB.out⟩
         intro e he
         rcases mem_addIns HON.out he with he | rfl
         ·have := HOD.out e he; omega
         ·have := HE2.out; exact ⟨this.1, this.2.1, by show ((edLast out').f2 ++ [s2]).length ≤ k + 1; rw [List.length_append, List.length_singleton]; omega⟩
     ·clear heq hend
      -- delend
      have f3 : decide (i < x.length) = true := by simp; omega
      have f4 : decide (k < y.length) = false := by simp; omega
      have HK := Aside0.mk (steps_del_end h1 h2)
      have HLn := Aside0.mk (show out.length ≤ 131072 by have := HW.out.len; omega)
      go_upto_if 52 with (fail)
      go_quiet (fail)
      go_upto_if 52 with (fail)
      have HM := Aside0.mk (WMid.mk (HW.out.drewN nq).own (HW.out.drewN nq).tab (HW.out.drewN nq).bel)
      go_cut [8, 9] (fun v8 v9 wc => v9 = .bool true ∧ Aside0 (WMid w.heap.size w T ⟨gT, 0, none⟩ cT v8 (opened (at_ + i) op out) wc))
      case first =>
       cases op
       ·go_wp2_with (first | ((with_reducible refine gate_builtin (b := .append) (xs := #[.tmp 53, .tmp 58]) rfl ?_); at_builtin; refine Kd.S_append k51 (w0 := w) w.heap.size rfl (.tmp 53) (.tmp 58) 23 51 (.agg #[(.int .i64 0), (.int .i64 0), (.slice none 0 0)]) 40 rfl Try.underlying23 ginfoEd rfl (by decide) (by omega) _ out (⟨at_ + i, 0, []⟩ : Ed) [.int .i64 (at_ + i), .int .i64 0, .slice none 0 0] (fun _ => True) (fun _ => False) rfl rfl (k51_mkM _ _ _ (⟨at_ + i, 0, []⟩ : Ed) (Kd.R_nil _ _ _ _ _)) (fun _ h => h.elim) (fun _ _ => trivial) (Kd.S_mono HM.out.own (fun _ _ => ⟨trivial, id⟩)) HM.out.bel HM.out.bel.size (by have := HLn.out; omega) ?_; intro v2 w2 ho hb hg hat; have HM2 := Aside0.mk (WMid.mk (T := T) (AT := ⟨gT, 0, none⟩) (cT := cT) ho (Kd.S_over' HM.out.tab (Kd.S_typed HM.out.own) (by decide) hg) hb); clear ho hb hg hat))
        go_meet
        exact ⟨rfl, HM2⟩
       ·go_wp2
        go_meet
        exact ⟨rfl, HM⟩
      case rest =>
       clear HM f3 f4
       obtain ⟨rfl, HM⟩ := hcut
       have HON := Aside0.mk (opened_ne (at_ + i) op out HW.out.ne)
       have HOL := Aside0.mk (show (opened (at_ + i) op out).length ≤ i + k + 1 by have := opened_len (at_ + i) op out; have := HW.out.len; omega)
       have HOD := Aside0.mk (opened_del (at_ := at_ + i) (op := op) HW.out.del)
       have HGO := Aside0.mk (show edits (at_ + i) op out (steps (x.drop i) (y.drop k)) = _ from HW.out.goes)
       rw [HK.out] at HGO
       simp only [edits] at HGO
       clear HW HK HLn
       generalize opened (at_ + i) op out = out' at *
       have hp : 0 < out'.length := List.length_pos_iff.2 HON.out
       have hp2 : out'.length ≤ 131073 := by have := HOL.out; omega
       obtain ⟨g, cap, ev, hgb, hgl, HGc⟩ := Kd.S_form HM.out.own hp
       subst ev
       obtain ⟨jl, hjl⟩ : ∃ j : Int, j = (out'.length : Int) - 1 := ⟨_, rfl⟩
       have kj : IntKind.i64.wrap ((out'.length : Int) - 1) = jl := by rw [hjl]; exact IntWalk.i64_in _ (by omega)
       have j0 : 0 ≤ jl := by omega
       have j1 : jl < (out'.length : Int) := by omega
       have HJ := Aside0.mk (show jl.toNat = out'.length - 1 by omega)
       have GB := Aside0.mk hgb
       clear hjl hgl hgb HGc
       have f1 : ((k : Int) == (y.length : Int)) = true := beq_iff_eq.2 (by omega)
       have f2 : (k == y.length) = true := beq_iff_eq.2 (by omega)
       go_wp2
       go_quiet (fail)
       have HM3 := Aside0.mk (HM.out.drewN nq)
       obtain ⟨hd1, hd2, hd3, hd4⟩ := own_del HM3.out.own HON.out j0 HJ.out
       have HD3 := Aside0.mk hd3
       have HEL := HOD.out _ (edLast_mem HON.out)
       have hb1 : 0 ≤ (edLast out').f1 := HEL.1
       have hb2 : (edLast out').f1 ≤ 65536 := by have := HEL.2.1; omega
       have HE2 := Aside0.mk HEL
       clear hd3 hd4 HEL
       obtain ⟨cg, hcg⟩ : ∃ cells, (wc.drewN nq).heap[g]? = some (.cells cells 51 (0, 0)) := Kd.S_typed HM3.out.own g rfl
       have HCG := Aside0.mk hcg
       clear hcg
       go_wp2
       go_roundg gk'
       case measure => have := HG.out; omega
       case rel =>
        refine ⟨i + 1, k, true, addDel out', rfl, by go_num, rfl, ⟨by have := HQ.out; have := HG.out; omega⟩, ⟨?_⟩⟩
        refine ⟨by omega, by omega, fun _ => addDel_ne _ HON.out, by have h := HGO.out; rw [Int.add_assoc] at h; exact h, ?_, Kd.S_set HM3.out.tab HCG.out (by decide) _ _, by rw [addDel_len]; have := HOL.out; omega, ?_, below_set HM3.out.bel GB.out⟩
        ·have h := HD3.out
         have h2 := addDel_len out'
         exact h
        ·intro e he
         rcases mem_addDel HON.out he with he | rfl
         ·have := HOD.out e he; omega
         ·have := HE2.out; exact ⟨by show 0 ≤ _ + _; omega, by show _ + _ ≤ _; omega, this.2.2⟩
    ·have h2 : k < y.length := by omega
     clear heq hend
     -- insend
     obtain ⟨ad2, e2, hx2⟩ := at_str (Kd.C_below HR2.out HW.out.bel) k h2
     cases e2
     have f3 : decide (i < x.length) = false := by simp; omega
     have f4 : decide (k < y.length) = true := by simp; omega
     have g2 : (k : Int) < (y.length : Int) := by omega
     have HK := Aside0.mk (steps_ins_end h1 h2)
     have HLn := Aside0.mk (show out.length ≤ 131072 by have := HW.out.len; omega)
     go_upto_if 52 with (fail)
     go_quiet (fail)
     go_upto_if 52 with (fail)
     have HM := Aside0.mk (WMid.mk (HW.out.drewN nq).own (HW.out.drewN nq).tab (HW.out.drewN nq).bel)
     go_cut [8, 9] (fun v8 v9 wc => v9 = .bool true ∧ Aside0 (WMid w.heap.size w T ⟨gT, 0, none⟩ cT v8 (opened (at_ + i) op out) wc))
     case first =>
      cases op
      ·go_wp2_with (first | ((with_reducible refine gate_builtin (b := .append) (xs := #[.tmp 53, .tmp 58]) rfl ?_); at_builtin; refine Kd.S_append k51 (w0 := w) w.heap.size rfl (.tmp 53) (.tmp 58) 23 51 (.agg #[(.int .i64 0), (.int .i64 0), (.slice none 0 0)]) 40 rfl Try.underlying23 ginfoEd rfl (by decide) (by omega) _ out (⟨at_ + i, 0, []⟩ : Ed) [.int .i64 (at_ + i), .int .i64 0, .slice none 0 0] (fun _ => True) (fun _ => False) rfl rfl (k51_mkM _ _ _ (⟨at_ + i, 0, []⟩ : Ed) (Kd.R_nil _ _ _ _ _)) (fun _ h => h.elim) (fun _ _ => trivial) (Kd.S_mono HM.out.own (fun _ _ => ⟨trivial, id⟩)) HM.out.bel HM.out.bel.size (by have := HLn.out; omega) ?_; intro v2 w2 ho hb hg hat; have HM2 := Aside0.mk (WMid.mk (T := T) (AT := ⟨gT, 0, none⟩) (cT := cT) ho (Kd.S_over' HM.out.tab (Kd.S_typed HM.out.own) (by decide) hg) hb); clear ho hb hg hat))
       go_meet
       exact ⟨rfl, HM2⟩
      ·go_wp2
       go_meet
       exact ⟨rfl, HM⟩
     case rest =>
      clear HM f3 f4
      obtain ⟨rfl, HM⟩ := hcut
      have HON := Aside0.mk (opened_ne (at_ + i) op out HW.out.ne)
      have HOL := Aside0.mk (show (opened (at_ + i) op out).length ≤ i + k + 1 by have := opened_len (at_ + i) op out; have := HW.out.len; omega)
      have HOD := Aside0.mk (opened_del (at_ := at_ + i) (op := op) HW.out.del)
      have HGO := Aside0.mk (show edits (at_ + i) op out (steps (x.drop i) (y.drop k)) = _ from HW.out.goes)
      rw [HK.out] at HGO
      simp only [edits] at HGO
      clear HW HK HLn
      generalize opened (at_ + i) op out = out' at *
      have hp : 0 < out'.length := List.length_pos_iff.2 HON.out
      have hp2 : out'.length ≤ 131073 := by have := HOL.out; omega
      obtain ⟨g, cap, ev, hgb, hgl, HGc⟩ := Kd.S_form HM.out.own hp
      subst ev
      obtain ⟨jl, hjl⟩ : ∃ j : Int, j = (out'.length : Int) - 1 := ⟨_, rfl⟩
      have kj : IntKind.i64.wrap ((out'.length : Int) - 1) = jl := by rw [hjl]; exact IntWalk.i64_in _ (by omega)
      have j0 : 0 ≤ jl := by omega
      have j1 : jl < (out'.length : Int) := by omega
      have HJ := Aside0.mk (show jl.toNat = out'.length - 1 by omega)
      have GB := Aside0.mk hgb
      clear hjl hgl hgb HGc
      have f1 : ((k : Int) == (y.length : Int)) = false := beq_eq_false_iff_ne.2 (by omega)
      have f2 : (k == y.length) = false := beq_eq_false_iff_ne.2 (by omega)
      have f3 : decide (i < x.length) = false := by simp; omega
      go_wp2
      go_quiet (fail)
      have HM3 := Aside0.mk (HM.out.drewN nq)
      have hx2w := Aside0.mk (at_str HR2.out k h2)
      obtain ⟨vi, Ai, ci, oki, evi, hs0, hri, hfr, hvg, hins⟩ := own_ins (y[k]) HM3.out.drew.own HON.out j0 HJ.out
      subst evi
      have hs1 : ((wc.drewN nq).drew).cell? (ad2.add k) = some (.string y[k]) := by obtain ⟨ad3, e3, h3⟩ := hx2w.out; cases e3; exact pw_cell_below HM3.out.drew.bel h3
      have HRI := Aside0.mk hri
      have HFR := Aside0.mk hfr
      have HIN := Aside0.mk hins
      have HM4 := Aside0.mk HM3.out.drew
      have HE2 := Aside0.mk (HOD.out _ (edLast_mem HON.out))
      have hel : (edLast out').f2.length ≤ 65536 := by have := HE2.out; omega
      clear hri hfr hins hvg hx2
      have HS2 := Aside0.mk (show ∀ W' : World, Below w.heap.size w W' → W'.cell? (ad2.add k) = some (.string y[k]) from fun W' hW => by obtain ⟨ad3, e3, h3⟩ := hx2w.out; cases e3; exact pw_cell_below hW h3)
      clear hx2w
      generalize y[k] = s2 at *
      go_wp2
      refine start_ (n := 14) (S := fun w' => w'.cell? ⟨g, jl.toNat * 3 + 2, none⟩ = some (.slice Ai (edLast out').f2.length ci) ∧ w'.cell? (ad2.add k) = some (.string s2)) (ds := [13]) #[false, false, false, false, false, false, false, false, false, false, false, false, false, false] (by kernel_rfl) rfl rfl ⟨hs0, hs1⟩ (fun hHeld => ?_)
      refine with_tabW diff_walk.tab14 diff_walk.bits14 (fun HT_ HW_ => ?_)
      generalize (wc.drewN nq).drew = w3 at HM4 HRI HFR HIN hs0 hs1 hHeld ⊢
      refine pure_ (i := 0) (N := some 103) (v := ?_) (a' := ?_) #[true, false, false, false, false, false, false, false, false, false, false, false, false, false] rfl rfl (any_of HT_.out (by kernel_rfl)) (fun _ _ _ h => h) (Or.inl ⟨by rfl, ?_⟩) ?_ ?_
      rotate_left
      ·intro w'
       go_simp
       with_reducible rfl
      rotate_left
      ·simp only [Act.put, List.setIfInBounds_toArray, List.set_cons_zero, List.set_cons_succ, i64_w, i32_w]
       rfl
      refine pure_ (i := 1) (N := some 104) (v := ?_) (a' := ?_) #[true, true, false, false, false, false, false, false, false, false, false, false, false, false] rfl rfl (any_of HT_.out (by kernel_rfl)) (fun _ _ _ h => h) (Or.inl ⟨by rfl, ?_⟩) ?_ ?_
      rotate_left
      ·intro w'
       go_simp
       with_reducible rfl
      rotate_left
      ·simp only [Act.put, List.setIfInBounds_toArray, List.set_cons_zero, List.set_cons_succ, i64_w, i32_w]
       rfl
      refine pure_ (i := 2) (N := some 105) (v := ?_) (a' := ?_) #[true, true, true, false, false, false, false, false, false, false, false, false, false, false] rfl rfl (any_of HT_.out (by kernel_rfl)) (fun _ _ _ h => h) (Or.inl ⟨by rfl, ?_⟩) ?_ ?_
      rotate_left
      ·intro w'
       go_simp
       with_reducible rfl
      rotate_left
      ·simp only [Act.put, List.setIfInBounds_toArray, List.set_cons_zero, List.set_cons_succ, i64_w, i32_w]
       rfl
      refine pure_ (i := 3) (N := some 106) (v := ?_) (a' := ?_) #[true, true, true, true, false, false, false, false, false, false, false, false, false, false] rfl rfl (any_of HT_.out (by kernel_rfl)) (fun _ _ _ h => h) (Or.inl ⟨by rfl, ?_⟩) ?_ ?_
      rotate_left
      ·intro w'
       go_simp
       with_reducible rfl
      rotate_left
      ·simp only [Act.put, List.setIfInBounds_toArray, List.set_cons_zero, List.set_cons_succ, i64_w, i32_w]
       rfl
      refine pure_ (i := 5) (N := some 108) (v := ?_) (a' := ?_) #[true, true, true, true, false, true, false, false, false, false, false, false, false, false] rfl rfl (any_of HT_.out (by kernel_rfl)) (fun _ _ _ h => h) (Or.inl ⟨by rfl, ?_⟩) ?_ ?_
      rotate_left
      ·intro w'
       go_simp
       with_reducible rfl
      rotate_left
      ·simp only [Act.put, List.setIfInBounds_toArray, List.set_cons_zero, List.set_cons_succ, i64_w, i32_w]
       rfl
      refine pure_ (i := 6) (N := some 109) (v := ?_) (a' := ?_) #[true, true, true, true, false, true, true, false, false, false, false, false, false, false] rfl rfl (any_of HT_.out (by kernel_rfl)) (fun _ _ _ h => h) (Or.inl ⟨by rfl, ?_⟩) ?_ ?_
      rotate_left
      ·intro w'
       go_simp
       with_reducible rfl
      rotate_left
      ·simp only [Act.put, List.setIfInBounds_toArray, List.set_cons_zero, List.set_cons_succ, i64_w, i32_w]
       rfl
      refine pure_ (i := 7) (N := some 110) (v := ?_) (a' := ?_) #[true, true, true, true, false, true, true, true, false, false, false, false, false, false] rfl rfl (any_of HT_.out (by kernel_rfl)) (fun _ _ _ h => h) (Or.inl ⟨by rfl, ?_⟩) ?_ ?_
      rotate_left
      ·intro w'
       go_simp
       with_reducible rfl
      rotate_left
      ·simp only [Act.put, List.setIfInBounds_toArray, List.set_cons_zero, List.set_cons_succ, i64_w, i32_w]
       rfl
      refine take_ (i := 4) (N := some 107) (v := ?_) (a' := ?_) #[true, true, true, true, true, true, true, true, false, false, false, false, false, false] rfl rfl (take_ofW HT_.out HW_.out (by kernel_rfl)) (fun _ _ _ h => h) (Or.inl ⟨by rfl, ?_⟩) hHeld ?_ ?_
      rotate_left
      ·rintro w' ⟨s0, s1⟩
       go_simp
       with_reducible rfl
      rotate_left
      ·simp only [Act.put, List.setIfInBounds_toArray, List.set_cons_zero, List.set_cons_succ, i64_w, i32_w]
       rfl
      refine take_ (i := 8) (N := some 111) (v := ?_) (a' := ?_) #[true, true, true, true, true, true, true, true, true, false, false, false, false, false] rfl rfl (take_ofW HT_.out HW_.out (by kernel_rfl)) (fun _ _ _ h => h) (Or.inl ⟨by rfl, ?_⟩) hHeld ?_ ?_
      rotate_left
      ·rintro w' ⟨s0, s1⟩
       go_simp
       with_reducible rfl
      rotate_left
      ·simp only [Act.put, List.setIfInBounds_toArray, List.set_cons_zero, List.set_cons_succ, i64_w, i32_w]
       rfl
      refine one_ (i := 9) (N := some 112) #[true, true, true, true, true, true, true, true, true, true, false, false, false, false] rfl rfl (one_of HT_.out (by kernel_rfl)) (by decide) (fun K hK => ?_)
      refine value_ (w1 := ?_) (v := ?_) (by rfl) rfl ?_ ?_
      rotate_left 2
      ·go_simp
       constructor
       ·rfl
       ·rfl
      refine hK.out _ _ ⟨(pw_cell_below (below_alloc (Below.refl _ _) _) hs0), (pw_cell_below (below_alloc (Below.refl _ _) _) hs1)⟩ (fun hHeld => ?_)
      clear hK K
      refine norm_ (a' := ?_) ?_ ?_
      rotate_left
      ·show Act.put _ (some 112) _ = _
       simp only [Act.put, List.setIfInBounds_toArray, List.set_cons_zero, List.set_cons_succ, i64_w, i32_w]
       rfl
      refine one_ (i := 10) (N := some 113) #[true, true, true, true, true, true, true, true, true, true, true, false, false, false] rfl rfl (one_of HT_.out (by kernel_rfl)) (by decide) (fun K hK => ?_)
      refine Kd.R_append_step Kd.string (w0 := w) w.heap.size (by rfl) (.tmp 107) (.tmp 112) 22 9 (.string ⟨#[]⟩) 16 rfl Try.underlying22 ginfoStrW rfl (by decide) (by omega) (.slice Ai (edLast out').f2.length ci) (edLast out').f2 s2 [.string s2] oki (fun _ => False) rfl rfl rfl (fun _ h => h.elim) HFR.out HRI.out HM4.out.bel HM4.out.bel.size (by omega) ?_
      intro v3 w5 ho hb hg hat
      obtain ⟨A3, c3, e3⟩ := Kd.R_slice ho
      rw [List.length_append, List.length_singleton] at e3
      subst e3
      obtain ⟨hc3, hf3, hS3, hg3, cg, hcg⟩ := HIN.out w3 w5 _ (Below.refl _ _) hg ho
      have HT5 := Aside0.mk (Kd.S_over' HM4.out.tab (Kd.R_typed HRI.out) (by decide) hg)
      have HB5 := Aside0.mk hb
      have HS5 := Aside0.mk hS3
      have HCG := Aside0.mk hcg
      have hs1' := HS2.out w5 hb
      clear ho hb hg hat hS3 hg3 hcg hs0 hs1
      refine hK.out _ _ ⟨hc3, hs1'⟩ (fun hHeld => ?_)
      clear hK K
      refine norm_ (a' := ?_) ?_ ?_
      rotate_left
      ·show Act.put _ (some 113) _ = _
       simp only [Act.put, List.setIfInBounds_toArray, List.set_cons_zero, List.set_cons_succ, i64_w, i32_w]
       rfl
      refine pure_ (i := 11) (N := some 114) (v := ?_) (a' := ?_) #[true, true, true, true, true, true, true, true, true, true, true, true, false, false] rfl rfl (any_of HT_.out (by kernel_rfl)) (fun _ _ _ h => h) (Or.inl ⟨by rfl, ?_⟩) ?_ ?_
      rotate_left
      ·intro w'
       go_simp
       with_reducible rfl
      rotate_left
      ·simp only [Act.put, List.setIfInBounds_toArray, List.set_cons_zero, List.set_cons_succ, i64_w, i32_w]
       rfl
      refine pure_ (i := 12) (N := some 115) (v := ?_) (a' := ?_) #[true, true, true, true, true, true, true, true, true, true, true, true, true, false] rfl rfl (any_of HT_.out (by kernel_rfl)) (fun _ _ _ h => h) (Or.inl ⟨by rfl, ?_⟩) ?_ ?_
      rotate_left
      ·intro w'
       go_simp
       with_reducible rfl
      rotate_left
      ·simp only [Act.put, List.setIfInBounds_toArray, List.set_cons_zero, List.set_cons_succ, i64_w, i32_w]
       rfl
      refine last_ (i := 13) (N := none) #[true, true, true, true, true, true, true, true, true, true, true, true, true, true] rfl rfl (one_of HT_.out (by kernel_rfl)) (by decide) (fun K hK => ?_)
      refine skip_ (w1 := ?_) (by rfl) rfl ?_ ?_
      rotate_left
      ·go_simp
       rfl
      refine hK.out _ _ ?_
      clear hK K
      refine done_ (done_of HT_.out (by kernel_rfl)) ?_

      go_wp2
      go_roundg gk'
      case measure => have := HG.out; omega
      case rel =>
       refine ⟨i, k + 1, true, addIns s2 out', rfl, rfl, by go_num, ⟨by have := HQ.out; have := HG.out; omega⟩, ⟨?_⟩⟩
       refine ⟨by omega, by omega, fun _ => addIns_ne _ _ HON.out, HGO.out, HS5.out, Kd.S_set HT5.out HCG.out (by decide) _ _, by rw [addIns_len]; have := HOL.out; omega, ?_, below_set HB5.out GB.out⟩
       intro e he
       rcases mem_addIns HON.out he with he | rfl
       ·have := HOD.out e he; omega
       ·have := HE2.out; exact ⟨this.1, this.2.1, by show ((edLast out').f2 ++ [s2]).length ≤ k + 1; rw [List.length_append, List.length_singleton]; omega⟩
end Go.Proofs.Ytlabiajcohmjhaa.Pr
