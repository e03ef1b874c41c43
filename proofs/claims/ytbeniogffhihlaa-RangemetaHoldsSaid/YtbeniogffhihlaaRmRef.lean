/- rangemeta: the document's spans and ranges. -/
import Derived.Test.YtbeniogffhihlaaRmLoad
import Derived.Test.YtbeniogffhihlaaLex
set_option linter.unusedVariables false
set_option linter.unusedSimpArgs false
namespace Go.Proofs.Ytbeniogffhihlaa
open Go.RowKit
theorem binOp_string_leq (t : TypeId) (a b : ByteArray) : binOp .leq t (.string a) (.string b) = pure (.bool (Op.bytesLess a.toList b.toList || a.toList == b.toList)) := by simp [binOp, Op.stringOp]
theorem binOp_string_geq (t : TypeId) (a b : ByteArray) : binOp .geq t (.string a) (.string b) = pure (.bool !(Op.bytesLess a.toList b.toList)) := by simp [binOp, Op.stringOp]
theorem binOp_string_gtr (t : TypeId) (a b : ByteArray) : binOp .gtr t (.string a) (.string b) = pure (.bool !(Op.bytesLess a.toList b.toList || a.toList == b.toList)) := by simp [binOp, Op.stringOp]
attribute [go_sem] binOp_string_leq binOp_string_geq binOp_string_gtr
theorem cmpB_eq : ∀ (l m : List Int), cmpB l m = if lexLt l m then -1 else if l = m then 0 else 1
  | [], [] => rfl
  | [], _ :: _ => rfl
  | _ :: _, [] => rfl
  | x :: l, y :: m => by
    have ih := cmpB_eq l m
    unfold cmpB lexLt
    rcases Int.lt_trichotomy x y with h | h | h
    · rw [if_pos h, if_pos (by simp [h])]
    · subst h
      rw [if_neg (by omega), if_neg (by omega), ih]
      simp
    · rw [if_neg (by omega), if_pos h, if_neg (by simp; omega), if_neg (by simp; omega)]
theorem cmpB_neg (l m : List Int) : decide (cmpB l m < 0) = lexLt l m := by
  rw [cmpB_eq]
  cases lexLt l m
  · simp only [Bool.false_eq_true, if_false]; split <;> rfl
  · rfl
theorem lexLt_irrefl : ∀ l : List Int, lexLt l l = false
  | [] => rfl
  | x :: l => by unfold lexLt; simp [lexLt_irrefl l]
theorem cmpB_npos (l m : List Int) : decide (cmpB l m ≤ 0) = (lexLt l m || decide (l = m)) := by
  rw [cmpB_eq]
  cases lexLt l m
  · simp only [Bool.false_eq_true, if_false, Bool.false_or]
    by_cases h : l = m
    · rw [if_pos h, decide_eq_true h]; rfl
    · rw [if_neg h, decide_eq_false h]; rfl
  · rfl
theorem cmpB_nneg (l m : List Int) : decide (0 ≤ cmpB l m) = !lexLt l m := by
  have := cmpB_neg l m
  rw [← this]
  by_cases h : cmpB l m < 0
  · rw [decide_eq_true h, decide_eq_false (by omega)]; rfl
  · rw [decide_eq_false h, decide_eq_true (by omega)]; rfl
theorem str_ble {l m : List Int} (hl : Rng l) (hm : Rng m) : (Op.bytesLess (strOfNums l).toList (strOfNums m).toList || (strOfNums l).toList == (strOfNums m).toList) = decide (cmpB l m ≤ 0) := by
  rw [str_blt hl hm, str_beq hl hm, cmpB_npos]
namespace Rm
def sameB (x y : RangeD) : Bool := (x.1 == y.1) && (x.2.2.2 == y.2.2.2) && decide (x.2.1 = y.2.1) && decide (x.2.2.1 = y.2.2.1)
set_option maxRecDepth 100000 in
set_option maxHeartbeats 4000000 in
theorem rSame_any (fv tv gv uv : Value) (id gen id' gen' : Int) (f t f' t' : List Int) (w : World) (hf : IsB w fv f) (ht : IsB w tv t) (hg : IsB w gv f') (hu : IsB w uv t') :
    Calls Try.prog 21 #[.agg #[.int .i64 id, fv, tv, .int .i64 gen], .agg #[.int .i64 id', gv, uv, .int .i64 gen']] w (Ret (.bool (sameB (id, f, t, gen) (id', f', t', gen'))) w) := by
  obtain ⟨fo, fc, rfl, -, -, -⟩ := hf.form
  obtain ⟨to, tc, rfl, -, -, -⟩ := ht.form
  obtain ⟨go, gc, rfl, -, -, -⟩ := hg.form
  obtain ⟨uo, uc, rfl, -, -, -⟩ := hu.form
  have b1 := ((hf.alloc (.cells #[.int .i64 id, .slice fo f.length fc, .slice to t.length tc, .int .i64 gen] 39)).alloc (.cells #[.int .i64 id', .slice go f'.length gc, .slice uo t'.length uc, .int .i64 gen'] 39)).conv Try.underlying23 Try.underlying5 Try.underlying9
  have b2 := ((ht.alloc (.cells #[.int .i64 id, .slice fo f.length fc, .slice to t.length tc, .int .i64 gen] 39)).alloc (.cells #[.int .i64 id', .slice go f'.length gc, .slice uo t'.length uc, .int .i64 gen'] 39)).conv Try.underlying23 Try.underlying5 Try.underlying9
  have b3 := ((hg.alloc (.cells #[.int .i64 id, .slice fo f.length fc, .slice to t.length tc, .int .i64 gen] 39)).alloc (.cells #[.int .i64 id', .slice go f'.length gc, .slice uo t'.length uc, .int .i64 gen'] 39)).conv Try.underlying23 Try.underlying5 Try.underlying9
  have b4 := ((hu.alloc (.cells #[.int .i64 id, .slice fo f.length fc, .slice to t.length tc, .int .i64 gen] 39)).alloc (.cells #[.int .i64 id', .slice go f'.length gc, .slice uo t'.length uc, .int .i64 gen'] 39)).conv Try.underlying23 Try.underlying5 Try.underlying9
  have s3 := str_beq hf.rng hg.rng
  have s4 := str_beq ht.rng hu.rng
  have HE : Hid (sameB (id, f, t, gen) (id', f', t', gen') = ((id == id') && (gen == gen') && decide (f = f') && decide (t = t'))) := Lib.hid rfl
  clear hf ht hg hu
  cases q1 : (id == id' : Bool)
  · skip
    have HR : Hid (sameB (id, f, t, gen) (id', f', t', gen') = false) := Lib.hid (by rw [HE.out]; simp only [q1, Bool.true_and, Bool.false_and, Bool.and_true, Bool.and_false, Bool.not_true, Bool.not_false])
    clear HE
    go_enter Try.func21, Try.ntmps21
    go_wp2_with fail
    go_ret
    exact ⟨by rw [HR.out]; rfl, bel_alloc (bel_alloc (Below.refl _ w) _) _⟩
  · skip
    cases q2 : (gen == gen' : Bool)
    · skip
      have HR : Hid (sameB (id, f, t, gen) (id', f', t', gen') = false) := Lib.hid (by rw [HE.out]; simp only [q1, q2, Bool.true_and, Bool.false_and, Bool.and_true, Bool.and_false, Bool.not_true, Bool.not_false])
      clear HE
      go_enter Try.func21, Try.ntmps21
      go_wp2_with fail
      go_ret
      exact ⟨by rw [HR.out]; rfl, bel_alloc (bel_alloc (Below.refl _ w) _) _⟩
    · skip
      cases q3 : (decide (f = f') : Bool)
      · skip
        rw [q3] at s3
        have HR : Hid (sameB (id, f, t, gen) (id', f', t', gen') = false) := Lib.hid (by rw [HE.out]; simp only [q1, q2, q3, Bool.true_and, Bool.false_and, Bool.and_true, Bool.and_false, Bool.not_true, Bool.not_false])
        clear HE
        go_enter Try.func21, Try.ntmps21
        go_wp2_with fail
        go_ret
        exact ⟨by rw [HR.out]; rfl, bel_alloc (bel_alloc (Below.refl _ w) _) _⟩
      · skip
        rw [q3] at s3
        cases q4 : (decide (t = t') : Bool)
        · skip
          rw [q4] at s4
          have HR : Hid (sameB (id, f, t, gen) (id', f', t', gen') = false) := Lib.hid (by rw [HE.out]; simp only [q1, q2, q3, q4, Bool.true_and, Bool.false_and, Bool.and_true, Bool.and_false, Bool.not_true, Bool.not_false])
          clear HE
          go_enter Try.func21, Try.ntmps21
          go_wp2_with fail
          go_ret
          exact ⟨by rw [HR.out]; rfl, bel_alloc (bel_alloc (Below.refl _ w) _) _⟩
        · skip
          rw [q4] at s4
          have HR : Hid (sameB (id, f, t, gen) (id', f', t', gen') = true) := Lib.hid (by rw [HE.out]; simp only [q1, q2, q3, q4, Bool.true_and, Bool.false_and, Bool.and_true, Bool.and_false, Bool.not_true, Bool.not_false])
          clear HE
          go_enter Try.func21, Try.ntmps21
          go_wp2_with fail
          go_ret
          exact ⟨by rw [HR.out]; rfl, bel_alloc (bel_alloc (Below.refl _ w) _) _⟩
def eqRs : List RangeD → List RangeD → Bool
  | [], [] => true
  | x :: l, y :: m => sameB x y && eqRs l m
  | _, _ => false
theorem eqRs_len : ∀ {l m : List RangeD}, eqRs l m = true → l.length = m.length
  | [], [], _ => rfl
  | _ :: _, [], h => by simp [eqRs] at h
  | [], _ :: _, h => by simp [eqRs] at h
  | x :: l, y :: m, h => by
    unfold eqRs at h
    rw [Bool.and_eq_true] at h
    rw [List.length_cons, List.length_cons, eqRs_len h.2]
theorem sameB_iff (x y : RangeD) : sameB x y = true ↔ x = y := by
  obtain ⟨a, b, c, d⟩ := x
  obtain ⟨a', b', c', d'⟩ := y
  simp only [sameB, Bool.and_eq_true, beq_iff_eq, decide_eq_true_eq, Prod.mk.injEq]
  constructor
  · rintro ⟨⟨⟨h1, h2⟩, h3⟩, h4⟩; exact ⟨h1, h3, h4, h2⟩
  · rintro ⟨h1, h3, h4, h2⟩; exact ⟨⟨⟨h1, h2⟩, h3⟩, h4⟩
theorem eqRs_iff : ∀ (l m : List RangeD), eqRs l m = true ↔ l = m
  | [], [] => by simp [eqRs]
  | _ :: _, [] => by simp [eqRs]
  | [], _ :: _ => by simp [eqRs]
  | x :: l, y :: m => by
    rw [eqRs, Bool.and_eq_true, sameB_iff, eqRs_iff l m, List.cons.injEq]
set_option maxRecDepth 100000 in
set_option maxHeartbeats 4000000 in
theorem rSameRanges_any (v u : Value) (l m : List RangeD) (w : World) (hv : IsRgs w v l) (hu : IsRgs w u m) :
    Calls Try.prog 16 #[v, u] w (Ret (.bool (decide (l = m))) w) := by
  have hlm := hv.max
  have hmm := hu.max
  obtain ⟨ao, cap, rfl, -, -, -⟩ := hv.form
  obtain ⟨bo, bap, rfl, -, -, -⟩ := hu.form
  have HV := Lib.hid hv
  have HU := Lib.hid hu
  clear hv hu
  by_cases hn : l.length = m.length
  · have e1 : ((l.length : Int) != (m.length : Int)) = false := by rw [hn]; simp
    have HN := Lib.hid hn
    clear hn
    go_enter Try.func16, Try.ntmps16
    go_wp2_with fail
    go_loopw [5] (fun i wr => ∃ k : Nat, k ≤ l.length ∧ i = .int .i64 k ∧ Hid (l.take k = m.take k) ∧ Hid (Below w.heap.size w wr)) (fun i _ => l.length - (intOf i).toNat)
    case atStart => exact ⟨0, Nat.zero_le _, rfl, rfl, Below.refl _ _⟩
    case round =>
      obtain ⟨k, hk, rfl, heq, hbel⟩ := hrel
      by_cases hlt : k < l.length
      · obtain ⟨b, o, x, fv, tv, hao, hbb, hx, c0', c1', c2', c3', hfv, htv, -⟩ := IsRgs.at4 HV.out hlt
        obtain ⟨b', o', y, gv, uv, hbo, hbb', hy, d0', d1', d2', d3', hgv, huv, -⟩ := IsRgs.at4 HU.out (show k < m.length by have := HN.out; omega)
        subst hao hbo
        have c0 := (hbel.out.cell (p := ⟨b, o + k * 4, none⟩) hbb).trans c0'
        have c1 := (hbel.out.cell (p := ⟨b, o + k * 4 + 1, none⟩) hbb).trans c1'
        have c2 := (hbel.out.cell (p := ⟨b, o + k * 4 + 2, none⟩) hbb).trans c2'
        have c3 := (hbel.out.cell (p := ⟨b, o + k * 4 + 3, none⟩) hbb).trans c3'
        have d0 := (hbel.out.cell (p := ⟨b', o' + k * 4, none⟩) hbb').trans d0'
        have d1 := (hbel.out.cell (p := ⟨b', o' + k * 4 + 1, none⟩) hbb').trans d1'
        have d2 := (hbel.out.cell (p := ⟨b', o' + k * 4 + 2, none⟩) hbb').trans d2'
        have d3 := (hbel.out.cell (p := ⟨b', o' + k * 4 + 3, none⟩) hbb').trans d3'
        have HC := Lib.hid (rSame_any _ _ _ _ x.1 x.2.2.2 y.1 y.2.2.2 x.2.1 x.2.2.1 y.2.1 y.2.2.1 wr.drew (hfv.out.below hbel.out.drew) (htv.out.below hbel.out.drew) (hgv.out.below hbel.out.drew) (huv.out.below hbel.out.drew))
        obtain ⟨fo, fc, rfl, -, -, -⟩ := hfv.out.form
        obtain ⟨to, tc, rfl, -, -, -⟩ := htv.out.form
        obtain ⟨go, gc, rfl, -, -, -⟩ := hgv.out.form
        obtain ⟨uo, uc, rfl, -, -, -⟩ := huv.out.form
        have hl0 : (k : Int) < l.length := by omega
        have hm0 : (k : Int) < m.length := by have := HN.out; omega
        have hm1 : k < m.length := by omega
        have hl1 : 0 ≤ (k : Int) := by omega
        have hw1 := IntWalk.i64_in ((k : Int) + 1) (by omega)
        clear c0' c1' c2' c3' d0' d1' d2' d3'
        have zb1 : b < wr.heap.size := Nat.lt_of_lt_of_le hbb hbel.out.size
        have zb2 : b' < wr.heap.size := Nat.lt_of_lt_of_le hbb' hbel.out.size
        go_wp2_with fail
        refine wp_region_L (fun w' => Below wr.heap.size wr w') 10 (by kernel_rfl) ?_ (fun hS9 => ?_)
        · exact (Below.refl _ _).drew
        refine wpAnyL_take (i := 0) rfl (by kernel_rfl) (by kernel_rfl) (by kernel_rfl) (by kernel_rfl) (by rfl) hS9 ?_; apply Exists.intro; refine ⟨fun _ _ _ h => h, fun w9 hT9 => ?_, ?_⟩
        · (try dsimp only at hT9); go_simp; first | done | with_reducible rfl | rfl
        simp only [Act.put, List.setIfInBounds_toArray, List.set_cons_succ, List.set_cons_zero]
        refine wpAnyL_take (i := 1) rfl (by kernel_rfl) (by kernel_rfl) (by kernel_rfl) (by kernel_rfl) (by rfl) hS9 ?_; apply Exists.intro; refine ⟨fun _ _ _ h => h, fun w9 hT9 => ?_, ?_⟩
        · (try dsimp only at hT9); go_simp; first | done | with_reducible rfl | rfl
        simp only [Act.put, List.setIfInBounds_toArray, List.set_cons_succ, List.set_cons_zero]
        refine wpAnyL_take (i := 2) rfl (by kernel_rfl) (by kernel_rfl) (by kernel_rfl) (by kernel_rfl) (by rfl) hS9 ?_; apply Exists.intro; refine ⟨fun _ _ _ h => h, fun w9 hT9 => ?_, ?_⟩
        · (try dsimp only at hT9); go_simp; first | done | with_reducible rfl | rfl
        simp only [Act.put, List.setIfInBounds_toArray, List.set_cons_succ, List.set_cons_zero]
        refine wpAnyL_take (i := 3) rfl (by kernel_rfl) (by kernel_rfl) (by kernel_rfl) (by kernel_rfl) (by rfl) hS9 ?_; apply Exists.intro; refine ⟨fun _ _ _ h => h, fun w9 hT9 => ?_, ?_⟩
        · (try dsimp only at hT9); obtain ⟨hcc9, hff9⟩ := bcell hT9; go_simp; first | done | with_reducible rfl | rfl
        simp only [Act.put, List.setIfInBounds_toArray, List.set_cons_succ, List.set_cons_zero]
        refine wpAnyL_take (i := 4) rfl (by kernel_rfl) (by kernel_rfl) (by kernel_rfl) (by kernel_rfl) (by rfl) hS9 ?_; apply Exists.intro; refine ⟨fun _ _ _ h => h, fun w9 hT9 => ?_, ?_⟩
        · (try dsimp only at hT9); go_simp; first | done | with_reducible rfl | rfl
        simp only [Act.put, List.setIfInBounds_toArray, List.set_cons_succ, List.set_cons_zero]
        refine wpAnyL_take (i := 5) rfl (by kernel_rfl) (by kernel_rfl) (by kernel_rfl) (by kernel_rfl) (by rfl) hS9 ?_; apply Exists.intro; refine ⟨fun _ _ _ h => h, fun w9 hT9 => ?_, ?_⟩
        · (try dsimp only at hT9); go_simp; first | done | with_reducible rfl | rfl
        simp only [Act.put, List.setIfInBounds_toArray, List.set_cons_succ, List.set_cons_zero]
        refine wpAnyL_take (i := 6) rfl (by kernel_rfl) (by kernel_rfl) (by kernel_rfl) (by kernel_rfl) (by rfl) hS9 ?_; apply Exists.intro; refine ⟨fun _ _ _ h => h, fun w9 hT9 => ?_, ?_⟩
        · (try dsimp only at hT9); go_simp; first | done | with_reducible rfl | rfl
        simp only [Act.put, List.setIfInBounds_toArray, List.set_cons_succ, List.set_cons_zero]
        refine wpAnyL_take (i := 7) rfl (by kernel_rfl) (by kernel_rfl) (by kernel_rfl) (by kernel_rfl) (by rfl) hS9 ?_; apply Exists.intro; refine ⟨fun _ _ _ h => h, fun w9 hT9 => ?_, ?_⟩
        · (try dsimp only at hT9); obtain ⟨hcc9, hff9⟩ := bcell hT9; go_simp; first | done | with_reducible rfl | rfl
        simp only [Act.put, List.setIfInBounds_toArray, List.set_cons_succ, List.set_cons_zero]
        refine wpAnyL_one (i := 8) rfl (by kernel_rfl) (fun K9 hK9 => ?_)
        go_simp; (with_reducible refine Calls.mono HC.out ?_); rintro e w5 ⟨rfl, hb⟩
        refine hK9.out _ _ ?_ (fun hT9 => ?_)
        · (try dsimp only); (first | exact hS9 | exact bel_call hS9 hb | exact bel_alloc hS9 _ | exact hS9.setCell (by simp <;> omega) _)
        clear hK9 K9 hS9; have hS9 := hT9; clear hT9
        (try simp only [Act.put, List.setIfInBounds_toArray, List.set_cons_succ, List.set_cons_zero])
        refine wpAnyL_take (i := 9) rfl (by kernel_rfl) (by kernel_rfl) (by kernel_rfl) (by kernel_rfl) (by rfl) hS9 ?_; apply Exists.intro; refine ⟨fun _ _ _ h => h, fun w9 hT9 => ?_, ?_⟩
        · (try dsimp only at hT9); go_simp; first | done | with_reducible rfl | rfl
        simp only [Act.put, List.setIfInBounds_toArray, List.set_cons_succ, List.set_cons_zero]
        refine wpAnyL_done (by kernel_rfl) ?_ _; have HS9 := Lib.hid hS9; clear hS9
        cases hsm : sameB x y
        · have HT : Hid (decide (l = m) = false) := Lib.hid (decide_eq_false (fun h => by have e1 := hx.out; have e2 := hy.out; rw [h, e2] at e1; cases e1; rw [(sameB_iff x x).2 rfl] at hsm; cases hsm))
          go_wp2_with fail
          go_ret
          exact ⟨by rw [HT.out]; rfl, hbel.out.trans (HS9.out.mono hbel.out.size)⟩
        · have HT : Hid (l.take (k + 1) = m.take (k + 1)) := Lib.hid (by rw [take_snoc hx.out, take_snoc hy.out, heq.out, (sameB_iff x y).1 hsm])
          have HG : Hid (Below w.heap.size w w5) := Lib.hid (hbel.out.trans (HS9.out.mono hbel.out.size))
          clear c0 c1 c2 c3 d0 d1 d2 d3
          go_wp2_with fail
          go_roundw
          case rel => exact ⟨k + 1, by omega, by go_num, HT.out, HG.out⟩
          case measure => simp [intOf]; omega
      · have hkl : k = l.length := by omega
        subst hkl
        have HT : Hid (decide (l = m) = true) := Lib.hid (decide_eq_true (by have h := heq.out; rw [List.take_length, HN.out, List.take_length] at h; exact h))
        have hm0 : ((l.length : Int) < (l.length : Int)) = False := by simp
        go_wp2_with fail
        go_ret
        exact ⟨by rw [HT.out]; rfl, hbel.out⟩
  · have e1 : ((l.length : Int) != (m.length : Int)) = true := by rw [bne_iff_ne]; omega
    have HN : Hid (decide (l = m) = false) := Lib.hid (decide_eq_false (fun h => hn (by rw [h])))
    clear hn
    go_enter Try.func16, Try.ntmps16
    go_wp2_with fail
    go_ret
    exact ⟨by rw [HN.out]; rfl, Below.refl _ _⟩
end Rm
end Go.Proofs.Ytbeniogffhihlaa
