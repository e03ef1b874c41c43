/- rangemeta: the document's spans and ranges. rangemeta: the document's Empty, Right, Table. rangemeta: the document's Table. -/
import Derived.Test.YtbeniogffhihlaaRmLoad
import Derived.Test.YtbeniogffhihlaaLex
set_option linter.unusedVariables false
set_option linter.unusedSimpArgs false
namespace Go.Proofs.Ytbeniogffhihlaa
open Go.RowKit
theorem binOp_string_leq (t : TypeId) (a b : ByteArray) : binOp .leq t (.string a) (.string b) = pure (.bool (Op.bytesLess a.toList b.toList || a.toList == b.toList)) := by simp [binOp, Op.stringOp]
theorem binOp_string_geq (t : TypeId) (a b : ByteArray) : binOp .geq t (.string a) (.string b) = pure (.bool !(Op.bytesLess a.toList b.toList)) := by simp [binOp, Op.stringOp]
theorem binOp_string_gtr (t : TypeId) (a b : ByteArray) : binOp .gtr t (.string a) (.string b) = pure (.bool !(Op.bytesLess a.toList b.toList || a.toList == b.toList)) := by simp [binOp, Op.stringOp]
attribute [go_sem] binOp_string_leq binOp_string_geq binOp_string_gtr
theorem cmpB_eq : ∀ (l m : List Int), cmpB l m = if lexLt l m then -1 else if l = m then 0 else 1
  | [], [] => rfl
  | [], _ :: _ => rfl
  | _ :: _, [] => rfl
  | x :: l, y :: m => by
    have ih := cmpB_eq l m
    unfold cmpB lexLt
    rcases Int.lt_trichotomy x y with h | h | h
    · rw [if_pos h, if_pos (by simp [h])]
    · subst h
      rw [if_neg (by omega), if_neg (by omega), ih]
      simp
    · rw [if_neg (by omega), if_pos h, if_neg (by simp; omega), if_neg (by simp; omega)]
theorem cmpB_neg (l m : List Int) : decide (cmpB l m < 0) = lexLt l m := by
  rw [cmpB_eq]
  cases lexLt l m
  · simp only [Bool.false_eq_true, if_false]; split <;> rfl
  · rfl
theorem lexLt_irrefl : ∀ l : List Int, lexLt l l = false
  | [] => rfl
  | x :: l => by unfold lexLt; simp [lexLt_irrefl l]
theorem cmpB_npos (l m : List Int) : decide (cmpB l m ≤ 0) = (lexLt l m || decide (l = m)) := by
  rw [cmpB_eq]
  cases lexLt l m
  · simp only [Bool.false_eq_true, if_false, Bool.false_or]
    by_cases h : l = m
    · rw [if_pos h, decide_eq_true h]; rfl
    · rw [if_neg h, decide_eq_false h]; rfl
  · rfl
theorem cmpB_nneg (l m : List Int) : decide (0 ≤ cmpB l m) = !lexLt l m := by
  have := cmpB_neg l m
  rw [← this]
  by_cases h : cmpB l m < 0
  · rw [decide_eq_true h, decide_eq_false (by omega)]; rfl
  · rw [decide_eq_false h, decide_eq_true (by omega)]; rfl
theorem str_ble {l m : List Int} (hl : Rng l) (hm : Rng m) : (Op.bytesLess (strOfNums l).toList (strOfNums m).toList || (strOfNums l).toList == (strOfNums m).toList) = decide (cmpB l m ≤ 0) := by
  rw [str_blt hl hm, str_beq hl hm, cmpB_npos]
namespace Rm
def sameB (x y : RangeD) : Bool := (x.1 == y.1) && (x.2.2.2 == y.2.2.2) && decide (x.2.1 = y.2.1) && decide (x.2.2.1 = y.2.2.1)
set_option maxRecDepth 100000 in
set_option maxHeartbeats 4000000 in
theorem rSame_any (fv tv gv uv : Value) (id gen id' gen' : Int) (f t f' t' : List Int) (w : World) (hf : IsB w fv f) (ht : IsB w tv t) (hg : IsB w gv f') (hu : IsB w uv t') :
    Calls Try.prog 21 #[.agg #[.int .i64 id, fv, tv, .int .i64 gen], .agg #[.int .i64 id', gv, uv, .int .i64 gen']] w (Ret (.bool (sameB (id, f, t, gen) (id', f', t', gen'))) w) := by
  obtain ⟨fo, fc, rfl, -, -, -⟩ := hf.form
  obtain ⟨to, tc, rfl, -, -, -⟩ := ht.form
  obtain ⟨go, gc, rfl, -, -, -⟩ := hg.form
  obtain ⟨uo, uc, rfl, -, -, -⟩ := hu.form
  have b1 := ((hf.alloc (.cells #[.int .i64 id, .slice fo f.length fc, .slice to t.length tc, .int .i64 gen] 39)).alloc (.cells #[.int .i64 id', .slice go f'.length gc, .slice uo t'.length uc, .int .i64 gen'] 39)).conv Try.underlying23 Try.underlying5 Try.underlying9
  have b2 := ((ht.alloc (.cells #[.int .i64 id, .slice fo f.length fc, .slice to t.length tc, .int .i64 gen] 39)).alloc (.cells #[.int .i64 id', .slice go f'.length gc, .slice uo t'.length uc, .int .i64 gen'] 39)).conv Try.underlying23 Try.underlying5 Try.underlying9
  have b3 := ((hg.alloc (.cells #[.int .i64 id, .slice fo f.length fc, .slice to t.length tc, .int .i64 gen] 39)).alloc (.cells #[.int .i64 id', .slice go f'.length gc, .slice uo t'.length uc, .int .i64 gen'] 39)).conv Try.underlying23 Try.underlying5 Try.underlying9
  have b4 := ((hu.alloc (.cells #[.int .i64 id, .slice fo f.length fc, .slice to t.length tc, .int .i64 gen] 39)).alloc (.cells #[.int .i64 id', .slice go f'.length gc, .slice uo t'.length uc, .int .i64 gen'] 39)).conv Try.underlying23 Try.underlying5 Try.underlying9
  have s3 := str_beq hf.rng hg.rng
  have s4 := str_beq ht.rng hu.rng
  have HE : Hid (sameB (id, f, t, gen) (id', f', t', gen') = ((id == id') && (gen == gen') && decide (f = f') && decide (t = t'))) := Lib.hid rfl
  clear hf ht hg hu
  cases q1 : (id == id' : Bool)
  · skip
    have HR : Hid (sameB (id, f, t, gen) (id', f', t', gen') = false) := Lib.hid (by rw [HE.out]; simp only [q1, Bool.false_and])
    clear HE
    go_enter Try.func21, Try.ntmps21
    go_wp2_with fail
    go_ret
    exact ⟨by rw [HR.out]; rfl, bel_alloc (bel_alloc (Below.refl _ w) _) _⟩
  · skip
    cases q2 : (gen == gen' : Bool)
    · skip
      have HR : Hid (sameB (id, f, t, gen) (id', f', t', gen') = false) := Lib.hid (by rw [HE.out]; simp only [q1, q2, Bool.false_and, Bool.and_false])
      clear HE
      go_enter Try.func21, Try.ntmps21
      go_wp2_with fail
      go_ret
      exact ⟨by rw [HR.out]; rfl, bel_alloc (bel_alloc (Below.refl _ w) _) _⟩
    · skip
      cases q3 : (decide (f = f') : Bool)
      · skip
        rw [q3] at s3
        have HR : Hid (sameB (id, f, t, gen) (id', f', t', gen') = false) := Lib.hid (by rw [HE.out]; simp only [q1, q2, q3, Bool.false_and, Bool.and_true, Bool.and_false])
        clear HE
        go_enter Try.func21, Try.ntmps21
        go_wp2_with fail
        go_ret
        exact ⟨by rw [HR.out]; rfl, bel_alloc (bel_alloc (Below.refl _ w) _) _⟩
      · skip
        rw [q3] at s3
        cases q4 : (decide (t = t') : Bool)
        · skip
          rw [q4] at s4
          have HR : Hid (sameB (id, f, t, gen) (id', f', t', gen') = false) := Lib.hid (by rw [HE.out]; simp only [q1, q2, q3, q4, Bool.and_true, Bool.and_false])
          clear HE
          go_enter Try.func21, Try.ntmps21
          go_wp2_with fail
          go_ret
          exact ⟨by rw [HR.out]; rfl, bel_alloc (bel_alloc (Below.refl _ w) _) _⟩
        · skip
          rw [q4] at s4
          have HR : Hid (sameB (id, f, t, gen) (id', f', t', gen') = true) := Lib.hid (by rw [HE.out]; simp only [q1, q2, q3, q4, Bool.and_true])
          clear HE
          go_enter Try.func21, Try.ntmps21
          go_wp2_with fail
          go_ret
          exact ⟨by rw [HR.out]; rfl, bel_alloc (bel_alloc (Below.refl _ w) _) _⟩
def eqRs : List RangeD → List RangeD → Bool
  | [], [] => true
  | x :: l, y :: m => sameB x y && eqRs l m
  | _, _ => false
theorem eqRs_len : ∀ {l m : List RangeD}, eqRs l m = true → l.length = m.length
  | [], [], _ => rfl
  | _ :: _, [], h => by simp [eqRs] at h
  | [], _ :: _, h => by simp [eqRs] at h
  | x :: l, y :: m, h => by
    unfold eqRs at h
    rw [Bool.and_eq_true] at h
    rw [List.length_cons, List.length_cons, eqRs_len h.2]
theorem sameB_iff (x y : RangeD) : sameB x y = true ↔ x = y := by
  obtain ⟨a, b, c, d⟩ := x
  obtain ⟨a', b', c', d'⟩ := y
  simp only [sameB, Bool.and_eq_true, beq_iff_eq, decide_eq_true_eq, Prod.mk.injEq]
  constructor
  · rintro ⟨⟨⟨h1, h2⟩, h3⟩, h4⟩; exact ⟨h1, h3, h4, h2⟩
  · rintro ⟨h1, h3, h4, h2⟩; exact ⟨⟨⟨h1, h2⟩, h3⟩, h4⟩
theorem eqRs_iff : ∀ (l m : List RangeD), eqRs l m = true ↔ l = m
  | [], [] => by simp [eqRs]
  | _ :: _, [] => by simp [eqRs]
  | [], _ :: _ => by simp [eqRs]
  | x :: l, y :: m => by
    rw [eqRs, Bool.and_eq_true, sameB_iff, eqRs_iff l m, List.cons.injEq]
set_option maxRecDepth 100000 in
set_option maxHeartbeats 4000000 in
theorem rSameRanges_any (v u : Value) (l m : List RangeD) (w : World) (hv : IsRgs w v l) (hu : IsRgs w u m) :
    Calls Try.prog 16 #[v, u] w (Ret (.bool (decide (l = m))) w) := by
  have hlm := hv.max
  have hmm := hu.max
  obtain ⟨ao, cap, rfl, -, -, -⟩ := hv.form
  obtain ⟨bo, bap, rfl, -, -, -⟩ := hu.form
  have HV := Lib.hid hv
  have HU := Lib.hid hu
  clear hv hu
  by_cases hn : l.length = m.length
  · have e1 : ((l.length : Int) != (m.length : Int)) = false := by rw [hn]; simp
    have HN := Lib.hid hn
    clear hn
    go_enter Try.func16, Try.ntmps16
    go_wp2_with fail
    go_loopw [5] (fun i wr => ∃ k : Nat, k ≤ l.length ∧ i = .int .i64 k ∧ Hid (l.take k = m.take k) ∧ Hid (Below w.heap.size w wr)) (fun i _ => l.length - (intOf i).toNat)
    case atStart => exact ⟨0, Nat.zero_le _, rfl, rfl, Below.refl _ _⟩
    case round =>
      obtain ⟨k, hk, rfl, heq, hbel⟩ := hrel
      by_cases hlt : k < l.length
      · obtain ⟨b, o, x, fv, tv, hao, hbb, hx, c0', c1', c2', c3', hfv, htv, -⟩ := IsRgs.at4 HV.out hlt
        obtain ⟨b', o', y, gv, uv, hbo, hbb', hy, d0', d1', d2', d3', hgv, huv, -⟩ := IsRgs.at4 HU.out (show k < m.length by have := HN.out; omega)
        subst hao hbo
        have c0 := (hbel.out.cell (p := ⟨b, o + k * 4, none⟩) hbb).trans c0'
        have c1 := (hbel.out.cell (p := ⟨b, o + k * 4 + 1, none⟩) hbb).trans c1'
        have c2 := (hbel.out.cell (p := ⟨b, o + k * 4 + 2, none⟩) hbb).trans c2'
        have c3 := (hbel.out.cell (p := ⟨b, o + k * 4 + 3, none⟩) hbb).trans c3'
        have d0 := (hbel.out.cell (p := ⟨b', o' + k * 4, none⟩) hbb').trans d0'
        have d1 := (hbel.out.cell (p := ⟨b', o' + k * 4 + 1, none⟩) hbb').trans d1'
        have d2 := (hbel.out.cell (p := ⟨b', o' + k * 4 + 2, none⟩) hbb').trans d2'
        have d3 := (hbel.out.cell (p := ⟨b', o' + k * 4 + 3, none⟩) hbb').trans d3'
        have HC := Lib.hid (rSame_any _ _ _ _ x.1 x.2.2.2 y.1 y.2.2.2 x.2.1 x.2.2.1 y.2.1 y.2.2.1 wr.drew (hfv.out.below hbel.out.drew) (htv.out.below hbel.out.drew) (hgv.out.below hbel.out.drew) (huv.out.below hbel.out.drew))
        obtain ⟨fo, fc, rfl, -, -, -⟩ := hfv.out.form
        obtain ⟨to, tc, rfl, -, -, -⟩ := htv.out.form
        obtain ⟨go, gc, rfl, -, -, -⟩ := hgv.out.form
        obtain ⟨uo, uc, rfl, -, -, -⟩ := huv.out.form
        have hl0 : (k : Int) < l.length := by omega
        have hm0 : (k : Int) < m.length := by have := HN.out; omega
        have hm1 : k < m.length := by omega
        have hl1 : 0 ≤ (k : Int) := by omega
        have hw1 := IntWalk.i64_in ((k : Int) + 1) (by omega)
        clear c0' c1' c2' c3' d0' d1' d2' d3'
        have zb1 : b < wr.heap.size := Nat.lt_of_lt_of_le hbb hbel.out.size
        have zb2 : b' < wr.heap.size := Nat.lt_of_lt_of_le hbb' hbel.out.size
        go_wp2_with fail
        refine wp_region_L (fun w' => Below wr.heap.size wr w') 10 (by kernel_rfl) ?_ (fun hS9 => ?_)
        · exact (Below.refl _ _).drew
        refine wpAnyL_take (i := 0) rfl (by kernel_rfl) (by kernel_rfl) (by kernel_rfl) (by kernel_rfl) (by rfl) hS9 ?_; apply Exists.intro; refine ⟨fun _ _ _ h => h, fun w9 hT9 => ?_, ?_⟩
        · (try dsimp only at hT9); go_simp; first | done | with_reducible rfl | rfl
        simp only [Act.put, List.setIfInBounds_toArray, List.set_cons_succ, List.set_cons_zero]
        refine wpAnyL_take (i := 1) rfl (by kernel_rfl) (by kernel_rfl) (by kernel_rfl) (by kernel_rfl) (by rfl) hS9 ?_; apply Exists.intro; refine ⟨fun _ _ _ h => h, fun w9 hT9 => ?_, ?_⟩
        · (try dsimp only at hT9); go_simp; first | done | with_reducible rfl | rfl
        simp only [Act.put, List.setIfInBounds_toArray, List.set_cons_succ, List.set_cons_zero]
        refine wpAnyL_take (i := 2) rfl (by kernel_rfl) (by kernel_rfl) (by kernel_rfl) (by kernel_rfl) (by rfl) hS9 ?_; apply Exists.intro; refine ⟨fun _ _ _ h => h, fun w9 hT9 => ?_, ?_⟩
        · (try dsimp only at hT9); go_simp; first | done | with_reducible rfl | rfl
        simp only [Act.put, List.setIfInBounds_toArray, List.set_cons_succ, List.set_cons_zero]
        refine wpAnyL_take (i := 3) rfl (by kernel_rfl) (by kernel_rfl) (by kernel_rfl) (by kernel_rfl) (by rfl) hS9 ?_; apply Exists.intro; refine ⟨fun _ _ _ h => h, fun w9 hT9 => ?_, ?_⟩
        · (try dsimp only at hT9); obtain ⟨hcc9, hff9⟩ := bcell hT9; go_simp; first | done | with_reducible rfl | rfl
        simp only [Act.put, List.setIfInBounds_toArray, List.set_cons_succ, List.set_cons_zero]
        refine wpAnyL_take (i := 4) rfl (by kernel_rfl) (by kernel_rfl) (by kernel_rfl) (by kernel_rfl) (by rfl) hS9 ?_; apply Exists.intro; refine ⟨fun _ _ _ h => h, fun w9 hT9 => ?_, ?_⟩
        · (try dsimp only at hT9); go_simp; first | done | with_reducible rfl | rfl
        simp only [Act.put, List.setIfInBounds_toArray, List.set_cons_succ, List.set_cons_zero]
        refine wpAnyL_take (i := 5) rfl (by kernel_rfl) (by kernel_rfl) (by kernel_rfl) (by kernel_rfl) (by rfl) hS9 ?_; apply Exists.intro; refine ⟨fun _ _ _ h => h, fun w9 hT9 => ?_, ?_⟩
        · (try dsimp only at hT9); go_simp; first | done | with_reducible rfl | rfl
        simp only [Act.put, List.setIfInBounds_toArray, List.set_cons_succ, List.set_cons_zero]
        refine wpAnyL_take (i := 6) rfl (by kernel_rfl) (by kernel_rfl) (by kernel_rfl) (by kernel_rfl) (by rfl) hS9 ?_; apply Exists.intro; refine ⟨fun _ _ _ h => h, fun w9 hT9 => ?_, ?_⟩
        · (try dsimp only at hT9); go_simp; first | done | with_reducible rfl | rfl
        simp only [Act.put, List.setIfInBounds_toArray, List.set_cons_succ, List.set_cons_zero]
        refine wpAnyL_take (i := 7) rfl (by kernel_rfl) (by kernel_rfl) (by kernel_rfl) (by kernel_rfl) (by rfl) hS9 ?_; apply Exists.intro; refine ⟨fun _ _ _ h => h, fun w9 hT9 => ?_, ?_⟩
        · (try dsimp only at hT9); obtain ⟨hcc9, hff9⟩ := bcell hT9; go_simp; first | done | with_reducible rfl | rfl
        simp only [Act.put, List.setIfInBounds_toArray, List.set_cons_succ, List.set_cons_zero]
        refine wpAnyL_one (i := 8) rfl (by kernel_rfl) (fun K9 hK9 => ?_)
        go_simp; (with_reducible refine Calls.mono HC.out ?_); rintro e w5 ⟨rfl, hb⟩
        refine hK9.out _ _ ?_ (fun hT9 => ?_)
        · (try dsimp only); (first | exact hS9 | exact bel_call hS9 hb | exact bel_alloc hS9 _ | exact hS9.setCell (by simp <;> omega) _)
        clear hK9 K9 hS9; have hS9 := hT9; clear hT9
        (try simp only [Act.put, List.setIfInBounds_toArray, List.set_cons_succ, List.set_cons_zero])
        refine wpAnyL_take (i := 9) rfl (by kernel_rfl) (by kernel_rfl) (by kernel_rfl) (by kernel_rfl) (by rfl) hS9 ?_; apply Exists.intro; refine ⟨fun _ _ _ h => h, fun w9 hT9 => ?_, ?_⟩
        · (try dsimp only at hT9); go_simp; first | done | with_reducible rfl | rfl
        simp only [Act.put, List.setIfInBounds_toArray, List.set_cons_succ, List.set_cons_zero]
        refine wpAnyL_done (by kernel_rfl) ?_ _; have HS9 := Lib.hid hS9; clear hS9
        cases hsm : sameB x y
        · have HT : Hid (decide (l = m) = false) := Lib.hid (decide_eq_false (fun h => by have e1 := hx.out; have e2 := hy.out; rw [h, e2] at e1; cases e1; rw [(sameB_iff x x).2 rfl] at hsm; cases hsm))
          go_wp2_with fail
          go_ret
          exact ⟨by rw [HT.out]; rfl, hbel.out.trans (HS9.out.mono hbel.out.size)⟩
        · have HT : Hid (l.take (k + 1) = m.take (k + 1)) := Lib.hid (by rw [take_snoc hx.out, take_snoc hy.out, heq.out, (sameB_iff x y).1 hsm])
          have HG : Hid (Below w.heap.size w w5) := Lib.hid (hbel.out.trans (HS9.out.mono hbel.out.size))
          clear c0 c1 c2 c3 d0 d1 d2 d3
          go_wp2_with fail
          go_roundw
          case rel => exact ⟨k + 1, by omega, by go_num, HT.out, HG.out⟩
          case measure => simp [intOf]; omega
      · have hkl : k = l.length := by omega
        subst hkl
        have HT : Hid (decide (l = m) = true) := Lib.hid (decide_eq_true (by have h := heq.out; rw [List.take_length, HN.out, List.take_length] at h; exact h))
        have hm0 : ((l.length : Int) < (l.length : Int)) = False := by simp
        go_wp2_with fail
        go_ret
        exact ⟨by rw [HT.out]; rfl, hbel.out⟩
  · have e1 : ((l.length : Int) != (m.length : Int)) = true := by rw [bne_iff_ne]; omega
    have HN : Hid (decide (l = m) = false) := Lib.hid (decide_eq_false (fun h => hn (by rw [h])))
    clear hn
    go_enter Try.func16, Try.ntmps16
    go_wp2_with fail
    go_ret
    exact ⟨by rw [HN.out]; rfl, Below.refl _ _⟩
end Rm
end Go.Proofs.Ytbeniogffhihlaa
namespace Go.Proofs.Ytbeniogffhihlaa
open Go.RowKit
namespace Rm
set_option maxRecDepth 100000 in
set_option maxHeartbeats 2000000 in
theorem rEmpty_any (fv tv : Value) (f t : List Int) (w : World) (hf : IsB w fv f) (ht : IsB w tv t) : Calls Try.prog 24 #[.agg #[fv, tv]] w (Ret (.bool (emptyB (f, t))) w) := by
  obtain ⟨fo, fc, rfl, -, -, -⟩ := hf.form
  obtain ⟨to, tc, rfl, -, -, -⟩ := ht.form
  have b1 := (hf.alloc (.cells #[.slice fo f.length fc, .slice to t.length tc] 25)).conv Try.underlying23 Try.underlying5 Try.underlying9
  have b2 := (ht.alloc (.cells #[.slice fo f.length fc, .slice to t.length tc] 25)).conv Try.underlying23 Try.underlying5 Try.underlying9
  have s2 := str_ble ht.rng hf.rng
  have HE : Hid (emptyB (f, t) = (decide (0 < t.length) && decide (cmpB t f ≤ 0))) := Lib.hid rfl
  clear hf ht
  cases q1 : (decide (0 < t.length) : Bool)
  · skip
    have HR : Hid (emptyB (f, t) = false) := Lib.hid (by rw [HE.out]; simp only [q1, Bool.false_and])
    clear HE
    go_enter Try.func24, Try.ntmps24
    go_wp2_with fail
    go_ret
    exact ⟨by rw [HR.out]; rfl, bel_alloc (Below.refl _ w) _⟩
  · skip
    cases q2 : (decide (cmpB t f ≤ 0) : Bool)
    · skip
      rw [q2] at s2
      have HR : Hid (emptyB (f, t) = false) := Lib.hid (by rw [HE.out]; simp only [q1, q2, Bool.and_false])
      clear HE
      go_enter Try.func24, Try.ntmps24
      go_wp2_with fail
      go_ret
      exact ⟨by rw [HR.out]; rfl, bel_alloc (Below.refl _ w) _⟩
    · skip
      rw [q2] at s2
      have HR : Hid (emptyB (f, t) = true) := Lib.hid (by rw [HE.out]; simp only [q1, q2, Bool.and_true])
      clear HE
      go_enter Try.func24, Try.ntmps24
      go_wp2_with fail
      go_ret
      exact ⟨by rw [HR.out]; rfl, bel_alloc (Below.refl _ w) _⟩
def countB (n : Int) : Bool := decide (0 ≤ n) && decide (n ≤ 9007199254740991)
set_option maxHeartbeats 1000000 in
theorem rCount_any (n : Int) (w : World) : Calls Try.prog 81 #[.int .i64 n] w (Ret (.bool (countB n)) w) := by
  have HE : Hid (countB n = (decide (0 ≤ n) && decide (n ≤ 9007199254740991))) := Lib.hid rfl
  cases q1 : (decide (0 ≤ n) : Bool)
  · skip
    have HR : Hid (countB n = false) := Lib.hid (by rw [HE.out]; simp only [q1, Bool.false_and])
    clear HE
    go_enter Try.func81, Try.ntmps81
    go_wp2_with fail
    go_ret
    exact ⟨by rw [HR.out]; rfl, Below.refl _ w⟩
  · skip
    cases q2 : (decide (n ≤ 9007199254740991) : Bool)
    · skip
      have HR : Hid (countB n = false) := Lib.hid (by rw [HE.out]; simp only [q1, q2, Bool.and_false])
      clear HE
      go_enter Try.func81, Try.ntmps81
      go_wp2_with fail
      go_ret
      exact ⟨by rw [HR.out]; rfl, Below.refl _ w⟩
    · skip
      have HR : Hid (countB n = true) := Lib.hid (by rw [HE.out]; simp only [q1, q2, Bool.and_true])
      clear HE
      go_enter Try.func81, Try.ntmps81
      go_wp2_with fail
      go_ret
      exact ⟨by rw [HR.out]; rfl, Below.refl _ w⟩
set_option maxRecDepth 100000 in
set_option maxHeartbeats 4000000 in
theorem rRight_any (fv tv : Value) (id gen : Int) (f t : List Int) (w : World) (hf : IsB w fv f) (ht : IsB w tv t) : Calls Try.prog 53 #[.agg #[.int .i64 id, fv, tv, .int .i64 gen]] w (Ret (.bool (rightB (id, f, t, gen))) w) := by
  obtain ⟨fo, fc, rfl, -, -, -⟩ := hf.form
  obtain ⟨to, tc, rfl, -, -, -⟩ := ht.form
  have HF := Lib.hid (hf.alloc (.cells #[.int .i64 id, .slice fo f.length fc, .slice to t.length tc, .int .i64 gen] 39))
  have HT := Lib.hid (ht.alloc (.cells #[.int .i64 id, .slice fo f.length fc, .slice to t.length tc, .int .i64 gen] 39))
  have HC := fun w => Lib.hid (rCount_any gen w)
  have HM := fun w1 (hb : Below (w.alloc (.cells #[.int .i64 id, .slice fo f.length fc, .slice to t.length tc, .int .i64 gen] 39)).heap.size (w.alloc (.cells #[.int .i64 id, .slice fo f.length fc, .slice to t.length tc, .int .i64 gen] 39)) w1) =>
    Lib.hid (rEmpty_any _ _ f t w1 (HF.out.below hb) (HT.out.below hb))
  have HE : Hid (rightB (id, f, t, gen) = (decide (1 ≤ id) && decide (id ≤ 255) && countB gen && decide (1 ≤ gen) && decide ((f.length : Int) ≤ 110) && decide ((t.length : Int) ≤ 110) && !emptyB (f, t))) := Lib.hid (by
    unfold rightB countB
    dsimp only
    generalize emptyB (f, t) = E
    rw [Bool.eq_iff_iff]
    simp only [Bool.and_eq_true, decide_eq_true_eq]
    constructor
    · rintro ⟨⟨⟨⟨⟨⟨h1, h2⟩, h3⟩, h4⟩, h5⟩, h6⟩, h7⟩; exact ⟨⟨⟨⟨⟨⟨h1, h2⟩, by omega, h4⟩, h3⟩, by omega⟩, by omega⟩, h7⟩
    · rintro ⟨⟨⟨⟨⟨⟨h1, h2⟩, h3, h4⟩, h5⟩, h6⟩, h7⟩, h8⟩; exact ⟨⟨⟨⟨⟨⟨h1, h2⟩, h5⟩, h4⟩, by omega⟩, by omega⟩, h8⟩)
  generalize emptyB (f, t) = E at *
  generalize countB gen = C at *
  clear hf ht
  cases q1 : (decide (1 ≤ id) : Bool)
  · skip
    have HR : Hid (rightB (id, f, t, gen) = false) := Lib.hid (by rw [HE.out]; simp only [q1, Bool.false_and])
    clear HE
    go_enter Try.func53, Try.ntmps53
    go_wp2_with fail
    refine (HC _).out.mono ?_
    rintro e w1 ⟨rfl, hb⟩
    have HM1 := HM w1 hb
    replace k0 : w1.cell? ⟨w.heap.size, 0, none⟩ = some (.int .i64 id) := (hb.cell (p := ⟨w.heap.size, 0, none⟩) (by simp <;> omega)).trans (by go_simp); replace k1 : w1.cell? ⟨w.heap.size, 1, none⟩ = some (.slice fo f.length fc) := (hb.cell (p := ⟨w.heap.size, 1, none⟩) (by simp <;> omega)).trans (by go_simp); replace k2 : w1.cell? ⟨w.heap.size, 2, none⟩ = some (.slice to t.length tc) := (hb.cell (p := ⟨w.heap.size, 2, none⟩) (by simp <;> omega)).trans (by go_simp); replace k3 : w1.cell? ⟨w.heap.size, 3, none⟩ = some (.int .i64 gen) := (hb.cell (p := ⟨w.heap.size, 3, none⟩) (by simp <;> omega)).trans (by go_simp)
    have G1 : Hid (Below w.heap.size w w1) := Lib.hid (bel_call (bel_alloc (Below.refl _ w) _) hb)
    have z1 : w.heap.size < w1.heap.size := by have := hb.size; simp at this; omega
    clear hb
    go_wp2_with fail
    refine HM1.out.mono ?_
    rintro e w2 ⟨rfl, hb⟩
    replace k0 : w2.cell? ⟨w.heap.size, 0, none⟩ = some (.int .i64 id) := (hb.cell (p := ⟨w.heap.size, 0, none⟩) (by simp <;> omega)).trans (by go_simp); replace k1 : w2.cell? ⟨w.heap.size, 1, none⟩ = some (.slice fo f.length fc) := (hb.cell (p := ⟨w.heap.size, 1, none⟩) (by simp <;> omega)).trans (by go_simp); replace k2 : w2.cell? ⟨w.heap.size, 2, none⟩ = some (.slice to t.length tc) := (hb.cell (p := ⟨w.heap.size, 2, none⟩) (by simp <;> omega)).trans (by go_simp); replace k3 : w2.cell? ⟨w.heap.size, 3, none⟩ = some (.int .i64 gen) := (hb.cell (p := ⟨w.heap.size, 3, none⟩) (by simp <;> omega)).trans (by go_simp)
    have G2 := Lib.hid (bel_call G1.out hb)
    clear hb
    go_wp2_with fail
    go_ret
    exact ⟨by rw [HR.out]; rfl, G2.out⟩
  · skip
    cases q2 : (decide (id ≤ 255) : Bool)
    · skip
      have HR : Hid (rightB (id, f, t, gen) = false) := Lib.hid (by rw [HE.out]; simp only [q1, q2, Bool.false_and, Bool.and_false])
      clear HE
      go_enter Try.func53, Try.ntmps53
      go_wp2_with fail
      refine (HC _).out.mono ?_
      rintro e w1 ⟨rfl, hb⟩
      have HM1 := HM w1 hb
      replace k0 : w1.cell? ⟨w.heap.size, 0, none⟩ = some (.int .i64 id) := (hb.cell (p := ⟨w.heap.size, 0, none⟩) (by simp <;> omega)).trans (by go_simp); replace k1 : w1.cell? ⟨w.heap.size, 1, none⟩ = some (.slice fo f.length fc) := (hb.cell (p := ⟨w.heap.size, 1, none⟩) (by simp <;> omega)).trans (by go_simp); replace k2 : w1.cell? ⟨w.heap.size, 2, none⟩ = some (.slice to t.length tc) := (hb.cell (p := ⟨w.heap.size, 2, none⟩) (by simp <;> omega)).trans (by go_simp); replace k3 : w1.cell? ⟨w.heap.size, 3, none⟩ = some (.int .i64 gen) := (hb.cell (p := ⟨w.heap.size, 3, none⟩) (by simp <;> omega)).trans (by go_simp)
      have G1 : Hid (Below w.heap.size w w1) := Lib.hid (bel_call (bel_alloc (Below.refl _ w) _) hb)
      have z1 : w.heap.size < w1.heap.size := by have := hb.size; simp at this; omega
      clear hb
      go_wp2_with fail
      refine HM1.out.mono ?_
      rintro e w2 ⟨rfl, hb⟩
      replace k0 : w2.cell? ⟨w.heap.size, 0, none⟩ = some (.int .i64 id) := (hb.cell (p := ⟨w.heap.size, 0, none⟩) (by simp <;> omega)).trans (by go_simp); replace k1 : w2.cell? ⟨w.heap.size, 1, none⟩ = some (.slice fo f.length fc) := (hb.cell (p := ⟨w.heap.size, 1, none⟩) (by simp <;> omega)).trans (by go_simp); replace k2 : w2.cell? ⟨w.heap.size, 2, none⟩ = some (.slice to t.length tc) := (hb.cell (p := ⟨w.heap.size, 2, none⟩) (by simp <;> omega)).trans (by go_simp); replace k3 : w2.cell? ⟨w.heap.size, 3, none⟩ = some (.int .i64 gen) := (hb.cell (p := ⟨w.heap.size, 3, none⟩) (by simp <;> omega)).trans (by go_simp)
      have G2 := Lib.hid (bel_call G1.out hb)
      clear hb
      go_wp2_with fail
      go_ret
      exact ⟨by rw [HR.out]; rfl, G2.out⟩
    · skip
      cases q3 : (C : Bool)
      · skip
        have HR : Hid (rightB (id, f, t, gen) = false) := Lib.hid (by rw [HE.out]; simp only [q1, q2, q3, Bool.false_and, Bool.and_true, Bool.and_false])
        clear HE
        go_enter Try.func53, Try.ntmps53
        go_wp2_with fail
        refine (HC _).out.mono ?_
        rintro e w1 ⟨rfl, hb⟩
        have HM1 := HM w1 hb
        replace k0 : w1.cell? ⟨w.heap.size, 0, none⟩ = some (.int .i64 id) := (hb.cell (p := ⟨w.heap.size, 0, none⟩) (by simp <;> omega)).trans (by go_simp); replace k1 : w1.cell? ⟨w.heap.size, 1, none⟩ = some (.slice fo f.length fc) := (hb.cell (p := ⟨w.heap.size, 1, none⟩) (by simp <;> omega)).trans (by go_simp); replace k2 : w1.cell? ⟨w.heap.size, 2, none⟩ = some (.slice to t.length tc) := (hb.cell (p := ⟨w.heap.size, 2, none⟩) (by simp <;> omega)).trans (by go_simp); replace k3 : w1.cell? ⟨w.heap.size, 3, none⟩ = some (.int .i64 gen) := (hb.cell (p := ⟨w.heap.size, 3, none⟩) (by simp <;> omega)).trans (by go_simp)
        have G1 : Hid (Below w.heap.size w w1) := Lib.hid (bel_call (bel_alloc (Below.refl _ w) _) hb)
        have z1 : w.heap.size < w1.heap.size := by have := hb.size; simp at this; omega
        clear hb
        go_wp2_with fail
        refine HM1.out.mono ?_
        rintro e w2 ⟨rfl, hb⟩
        replace k0 : w2.cell? ⟨w.heap.size, 0, none⟩ = some (.int .i64 id) := (hb.cell (p := ⟨w.heap.size, 0, none⟩) (by simp <;> omega)).trans (by go_simp); replace k1 : w2.cell? ⟨w.heap.size, 1, none⟩ = some (.slice fo f.length fc) := (hb.cell (p := ⟨w.heap.size, 1, none⟩) (by simp <;> omega)).trans (by go_simp); replace k2 : w2.cell? ⟨w.heap.size, 2, none⟩ = some (.slice to t.length tc) := (hb.cell (p := ⟨w.heap.size, 2, none⟩) (by simp <;> omega)).trans (by go_simp); replace k3 : w2.cell? ⟨w.heap.size, 3, none⟩ = some (.int .i64 gen) := (hb.cell (p := ⟨w.heap.size, 3, none⟩) (by simp <;> omega)).trans (by go_simp)
        have G2 := Lib.hid (bel_call G1.out hb)
        clear hb
        go_wp2_with fail
        go_ret
        exact ⟨by rw [HR.out]; rfl, G2.out⟩
      · skip
        cases q4 : (decide (1 ≤ gen) : Bool)
        · skip
          have HR : Hid (rightB (id, f, t, gen) = false) := Lib.hid (by rw [HE.out]; simp only [q1, q2, q3, q4, Bool.false_and, Bool.and_true, Bool.and_false])
          clear HE
          go_enter Try.func53, Try.ntmps53
          go_wp2_with fail
          refine (HC _).out.mono ?_
          rintro e w1 ⟨rfl, hb⟩
          have HM1 := HM w1 hb
          replace k0 : w1.cell? ⟨w.heap.size, 0, none⟩ = some (.int .i64 id) := (hb.cell (p := ⟨w.heap.size, 0, none⟩) (by simp <;> omega)).trans (by go_simp); replace k1 : w1.cell? ⟨w.heap.size, 1, none⟩ = some (.slice fo f.length fc) := (hb.cell (p := ⟨w.heap.size, 1, none⟩) (by simp <;> omega)).trans (by go_simp); replace k2 : w1.cell? ⟨w.heap.size, 2, none⟩ = some (.slice to t.length tc) := (hb.cell (p := ⟨w.heap.size, 2, none⟩) (by simp <;> omega)).trans (by go_simp); replace k3 : w1.cell? ⟨w.heap.size, 3, none⟩ = some (.int .i64 gen) := (hb.cell (p := ⟨w.heap.size, 3, none⟩) (by simp <;> omega)).trans (by go_simp)
          have G1 : Hid (Below w.heap.size w w1) := Lib.hid (bel_call (bel_alloc (Below.refl _ w) _) hb)
          have z1 : w.heap.size < w1.heap.size := by have := hb.size; simp at this; omega
          clear hb
          go_wp2_with fail
          refine HM1.out.mono ?_
          rintro e w2 ⟨rfl, hb⟩
          replace k0 : w2.cell? ⟨w.heap.size, 0, none⟩ = some (.int .i64 id) := (hb.cell (p := ⟨w.heap.size, 0, none⟩) (by simp <;> omega)).trans (by go_simp); replace k1 : w2.cell? ⟨w.heap.size, 1, none⟩ = some (.slice fo f.length fc) := (hb.cell (p := ⟨w.heap.size, 1, none⟩) (by simp <;> omega)).trans (by go_simp); replace k2 : w2.cell? ⟨w.heap.size, 2, none⟩ = some (.slice to t.length tc) := (hb.cell (p := ⟨w.heap.size, 2, none⟩) (by simp <;> omega)).trans (by go_simp); replace k3 : w2.cell? ⟨w.heap.size, 3, none⟩ = some (.int .i64 gen) := (hb.cell (p := ⟨w.heap.size, 3, none⟩) (by simp <;> omega)).trans (by go_simp)
          have G2 := Lib.hid (bel_call G1.out hb)
          clear hb
          go_wp2_with fail
          go_ret
          exact ⟨by rw [HR.out]; rfl, G2.out⟩
        · skip
          cases q5 : (decide ((f.length : Int) ≤ 110) : Bool)
          · skip
            have HR : Hid (rightB (id, f, t, gen) = false) := Lib.hid (by rw [HE.out]; simp only [q1, q2, q3, q4, q5, Bool.false_and, Bool.and_true, Bool.and_false])
            clear HE
            go_enter Try.func53, Try.ntmps53
            go_wp2_with fail
            refine (HC _).out.mono ?_
            rintro e w1 ⟨rfl, hb⟩
            have HM1 := HM w1 hb
            replace k0 : w1.cell? ⟨w.heap.size, 0, none⟩ = some (.int .i64 id) := (hb.cell (p := ⟨w.heap.size, 0, none⟩) (by simp <;> omega)).trans (by go_simp); replace k1 : w1.cell? ⟨w.heap.size, 1, none⟩ = some (.slice fo f.length fc) := (hb.cell (p := ⟨w.heap.size, 1, none⟩) (by simp <;> omega)).trans (by go_simp); replace k2 : w1.cell? ⟨w.heap.size, 2, none⟩ = some (.slice to t.length tc) := (hb.cell (p := ⟨w.heap.size, 2, none⟩) (by simp <;> omega)).trans (by go_simp); replace k3 : w1.cell? ⟨w.heap.size, 3, none⟩ = some (.int .i64 gen) := (hb.cell (p := ⟨w.heap.size, 3, none⟩) (by simp <;> omega)).trans (by go_simp)
            have G1 : Hid (Below w.heap.size w w1) := Lib.hid (bel_call (bel_alloc (Below.refl _ w) _) hb)
            have z1 : w.heap.size < w1.heap.size := by have := hb.size; simp at this; omega
            clear hb
            go_wp2_with fail
            refine HM1.out.mono ?_
            rintro e w2 ⟨rfl, hb⟩
            replace k0 : w2.cell? ⟨w.heap.size, 0, none⟩ = some (.int .i64 id) := (hb.cell (p := ⟨w.heap.size, 0, none⟩) (by simp <;> omega)).trans (by go_simp); replace k1 : w2.cell? ⟨w.heap.size, 1, none⟩ = some (.slice fo f.length fc) := (hb.cell (p := ⟨w.heap.size, 1, none⟩) (by simp <;> omega)).trans (by go_simp); replace k2 : w2.cell? ⟨w.heap.size, 2, none⟩ = some (.slice to t.length tc) := (hb.cell (p := ⟨w.heap.size, 2, none⟩) (by simp <;> omega)).trans (by go_simp); replace k3 : w2.cell? ⟨w.heap.size, 3, none⟩ = some (.int .i64 gen) := (hb.cell (p := ⟨w.heap.size, 3, none⟩) (by simp <;> omega)).trans (by go_simp)
            have G2 := Lib.hid (bel_call G1.out hb)
            clear hb
            go_wp2_with fail
            go_ret
            exact ⟨by rw [HR.out]; rfl, G2.out⟩
          · skip
            cases q6 : (decide ((t.length : Int) ≤ 110) : Bool)
            · skip
              have HR : Hid (rightB (id, f, t, gen) = false) := Lib.hid (by rw [HE.out]; simp only [q1, q2, q3, q4, q5, q6, Bool.false_and, Bool.and_true, Bool.and_false])
              clear HE
              go_enter Try.func53, Try.ntmps53
              go_wp2_with fail
              refine (HC _).out.mono ?_
              rintro e w1 ⟨rfl, hb⟩
              have HM1 := HM w1 hb
              replace k0 : w1.cell? ⟨w.heap.size, 0, none⟩ = some (.int .i64 id) := (hb.cell (p := ⟨w.heap.size, 0, none⟩) (by simp <;> omega)).trans (by go_simp); replace k1 : w1.cell? ⟨w.heap.size, 1, none⟩ = some (.slice fo f.length fc) := (hb.cell (p := ⟨w.heap.size, 1, none⟩) (by simp <;> omega)).trans (by go_simp); replace k2 : w1.cell? ⟨w.heap.size, 2, none⟩ = some (.slice to t.length tc) := (hb.cell (p := ⟨w.heap.size, 2, none⟩) (by simp <;> omega)).trans (by go_simp); replace k3 : w1.cell? ⟨w.heap.size, 3, none⟩ = some (.int .i64 gen) := (hb.cell (p := ⟨w.heap.size, 3, none⟩) (by simp <;> omega)).trans (by go_simp)
              have G1 : Hid (Below w.heap.size w w1) := Lib.hid (bel_call (bel_alloc (Below.refl _ w) _) hb)
              have z1 : w.heap.size < w1.heap.size := by have := hb.size; simp at this; omega
              clear hb
              go_wp2_with fail
              refine HM1.out.mono ?_
              rintro e w2 ⟨rfl, hb⟩
              replace k0 : w2.cell? ⟨w.heap.size, 0, none⟩ = some (.int .i64 id) := (hb.cell (p := ⟨w.heap.size, 0, none⟩) (by simp <;> omega)).trans (by go_simp); replace k1 : w2.cell? ⟨w.heap.size, 1, none⟩ = some (.slice fo f.length fc) := (hb.cell (p := ⟨w.heap.size, 1, none⟩) (by simp <;> omega)).trans (by go_simp); replace k2 : w2.cell? ⟨w.heap.size, 2, none⟩ = some (.slice to t.length tc) := (hb.cell (p := ⟨w.heap.size, 2, none⟩) (by simp <;> omega)).trans (by go_simp); replace k3 : w2.cell? ⟨w.heap.size, 3, none⟩ = some (.int .i64 gen) := (hb.cell (p := ⟨w.heap.size, 3, none⟩) (by simp <;> omega)).trans (by go_simp)
              have G2 := Lib.hid (bel_call G1.out hb)
              clear hb
              go_wp2_with fail
              go_ret
              exact ⟨by rw [HR.out]; rfl, G2.out⟩
            · skip
              cases q7 : (!E : Bool)
              · skip
                have HR : Hid (rightB (id, f, t, gen) = false) := Lib.hid (by rw [HE.out]; simp only [q1, q2, q3, q4, q5, q6, q7, Bool.and_true, Bool.and_false])
                clear HE
                go_enter Try.func53, Try.ntmps53
                go_wp2_with fail
                refine (HC _).out.mono ?_
                rintro e w1 ⟨rfl, hb⟩
                have HM1 := HM w1 hb
                replace k0 : w1.cell? ⟨w.heap.size, 0, none⟩ = some (.int .i64 id) := (hb.cell (p := ⟨w.heap.size, 0, none⟩) (by simp <;> omega)).trans (by go_simp); replace k1 : w1.cell? ⟨w.heap.size, 1, none⟩ = some (.slice fo f.length fc) := (hb.cell (p := ⟨w.heap.size, 1, none⟩) (by simp <;> omega)).trans (by go_simp); replace k2 : w1.cell? ⟨w.heap.size, 2, none⟩ = some (.slice to t.length tc) := (hb.cell (p := ⟨w.heap.size, 2, none⟩) (by simp <;> omega)).trans (by go_simp); replace k3 : w1.cell? ⟨w.heap.size, 3, none⟩ = some (.int .i64 gen) := (hb.cell (p := ⟨w.heap.size, 3, none⟩) (by simp <;> omega)).trans (by go_simp)
                have G1 : Hid (Below w.heap.size w w1) := Lib.hid (bel_call (bel_alloc (Below.refl _ w) _) hb)
                have z1 : w.heap.size < w1.heap.size := by have := hb.size; simp at this; omega
                clear hb
                go_wp2_with fail
                refine HM1.out.mono ?_
                rintro e w2 ⟨rfl, hb⟩
                replace k0 : w2.cell? ⟨w.heap.size, 0, none⟩ = some (.int .i64 id) := (hb.cell (p := ⟨w.heap.size, 0, none⟩) (by simp <;> omega)).trans (by go_simp); replace k1 : w2.cell? ⟨w.heap.size, 1, none⟩ = some (.slice fo f.length fc) := (hb.cell (p := ⟨w.heap.size, 1, none⟩) (by simp <;> omega)).trans (by go_simp); replace k2 : w2.cell? ⟨w.heap.size, 2, none⟩ = some (.slice to t.length tc) := (hb.cell (p := ⟨w.heap.size, 2, none⟩) (by simp <;> omega)).trans (by go_simp); replace k3 : w2.cell? ⟨w.heap.size, 3, none⟩ = some (.int .i64 gen) := (hb.cell (p := ⟨w.heap.size, 3, none⟩) (by simp <;> omega)).trans (by go_simp)
                have G2 := Lib.hid (bel_call G1.out hb)
                clear hb
                go_wp2_with fail
                go_ret
                exact ⟨by rw [HR.out]; rfl, G2.out⟩
              · skip
                have HR : Hid (rightB (id, f, t, gen) = true) := Lib.hid (by rw [HE.out]; simp only [q1, q2, q3, q4, q5, q6, q7, Bool.and_true])
                clear HE
                go_enter Try.func53, Try.ntmps53
                go_wp2_with fail
                refine (HC _).out.mono ?_
                rintro e w1 ⟨rfl, hb⟩
                have HM1 := HM w1 hb
                replace k0 : w1.cell? ⟨w.heap.size, 0, none⟩ = some (.int .i64 id) := (hb.cell (p := ⟨w.heap.size, 0, none⟩) (by simp <;> omega)).trans (by go_simp); replace k1 : w1.cell? ⟨w.heap.size, 1, none⟩ = some (.slice fo f.length fc) := (hb.cell (p := ⟨w.heap.size, 1, none⟩) (by simp <;> omega)).trans (by go_simp); replace k2 : w1.cell? ⟨w.heap.size, 2, none⟩ = some (.slice to t.length tc) := (hb.cell (p := ⟨w.heap.size, 2, none⟩) (by simp <;> omega)).trans (by go_simp); replace k3 : w1.cell? ⟨w.heap.size, 3, none⟩ = some (.int .i64 gen) := (hb.cell (p := ⟨w.heap.size, 3, none⟩) (by simp <;> omega)).trans (by go_simp)
                have G1 : Hid (Below w.heap.size w w1) := Lib.hid (bel_call (bel_alloc (Below.refl _ w) _) hb)
                have z1 : w.heap.size < w1.heap.size := by have := hb.size; simp at this; omega
                clear hb
                go_wp2_with fail
                refine HM1.out.mono ?_
                rintro e w2 ⟨rfl, hb⟩
                replace k0 : w2.cell? ⟨w.heap.size, 0, none⟩ = some (.int .i64 id) := (hb.cell (p := ⟨w.heap.size, 0, none⟩) (by simp <;> omega)).trans (by go_simp); replace k1 : w2.cell? ⟨w.heap.size, 1, none⟩ = some (.slice fo f.length fc) := (hb.cell (p := ⟨w.heap.size, 1, none⟩) (by simp <;> omega)).trans (by go_simp); replace k2 : w2.cell? ⟨w.heap.size, 2, none⟩ = some (.slice to t.length tc) := (hb.cell (p := ⟨w.heap.size, 2, none⟩) (by simp <;> omega)).trans (by go_simp); replace k3 : w2.cell? ⟨w.heap.size, 3, none⟩ = some (.int .i64 gen) := (hb.cell (p := ⟨w.heap.size, 3, none⟩) (by simp <;> omega)).trans (by go_simp)
                have G2 := Lib.hid (bel_call G1.out hb)
                clear hb
                go_wp2_with fail
                go_ret
                exact ⟨by rw [HR.out]; rfl, G2.out⟩
end Rm
end Go.Proofs.Ytbeniogffhihlaa
namespace Go.Proofs.Ytbeniogffhihlaa
open Go.RowKit
namespace Rm
def docAt (l : List RangeD) (k : Nat) (x : RangeD) : Prop := rightB x = true ∧ (∀ j y, k = j + 1 → l[j]? = some y → y.2.2.1.length ≠ 0 ∧ y.2.2.1 = x.2.1) ∧ (∀ m y, m < k → l[m]? = some y → y.1 ≠ x.1)
theorem prevTo_succ {l : List RangeD} {j : Nat} {y : RangeD} (h : l[j]? = some y) : prevTo l (j + 1) = y.2.2.1 := by
  show (l.getD j zeroR).2.2.1 = _
  rw [List.getD_eq_getElem?_getD, h]; rfl
theorem tableP_at {l : List RangeD} (h : tableP l) {k : Nat} {x : RangeD} (hx : l[k]? = some x) : rightB x = true ∧ x.2.1 = prevTo l k ∧ (x.2.2.1.length = 0 ↔ k + 1 = l.length) := by
  have h1 := h.2.2.1 k x hx
  unfold okAt at h1
  rw [Bool.and_eq_true, Bool.and_eq_true, decide_eq_true_eq, beq_iff_eq, decide_eq_decide] at h1
  exact ⟨h1.1.1, h1.1.2, h1.2⟩
theorem tableP_docAt {l : List RangeD} (h : tableP l) {k : Nat} {x : RangeD} (hx : l[k]? = some x) : docAt l k x := by
  refine ⟨(tableP_at h hx).1, fun j y hj hy => ?_, fun m y hm hy he => ?_⟩
  · subst hj
    have hk := (List.getElem?_eq_some_iff.1 hx).1
    refine ⟨fun h0 => ?_, ?_⟩
    · have := (tableP_at h hy).2.2.1 h0; omega
    · rw [(tableP_at h hx).2.1, prevTo_succ hy]
  · have hn := List.nodup_iff_pairwise_ne.1 h.2.2.2
    rw [List.pairwise_iff_getElem] at hn
    have hk := List.getElem?_eq_some_iff.1 hx
    have hmm := List.getElem?_eq_some_iff.1 hy
    obtain ⟨hk1, hk2⟩ := hk
    obtain ⟨hm1, hm2⟩ := hmm
    refine hn m k (by simpa using hm1) (by simpa using hk1) hm ?_
    rw [List.getElem_map, List.getElem_map, hk2, hm2]
    exact he
theorem tableP_intro {l : List RangeD} (h0 : 0 < l.length) (h32 : l.length ≤ 32) (hf : ∀ x, l[0]? = some x → x.2.1.length = 0) (hl : ∀ x, l[l.length - 1]? = some x → x.2.2.1.length = 0) (h : ∀ k x, l[k]? = some x → docAt l k x) : tableP l := by
  refine ⟨h0, h32, fun k x hx => ?_, ?_⟩
  · have hk := (List.getElem?_eq_some_iff.1 hx).1
    have hd := h k x hx
    unfold okAt
    rw [Bool.and_eq_true, Bool.and_eq_true, decide_eq_true_eq, beq_iff_eq, decide_eq_decide]
    refine ⟨⟨hd.1, ?_⟩, ?_⟩
    · cases k with
      | zero => exact List.eq_nil_of_length_eq_zero (hf x hx)
      | succ j =>
        obtain ⟨y, hy⟩ : ∃ y, l[j]? = some y := ⟨_, List.getElem?_eq_getElem (by omega)⟩
        rw [prevTo_succ hy]; exact (hd.2.1 j y rfl hy).2.symm
    · constructor
      · intro hz
        rcases Nat.lt_or_ge (k + 1) l.length with hlt | hge
        · obtain ⟨y, hy⟩ : ∃ y, l[k + 1]? = some y := ⟨_, List.getElem?_eq_getElem hlt⟩
          exact absurd hz ((h (k + 1) y hy).2.1 k x rfl hx).1
        · omega
      · intro he
        exact hl x (by rw [← he]; exact hx)
  · rw [List.nodup_iff_pairwise_ne, List.pairwise_iff_getElem]
    intro i j hi hj hij
    rw [List.getElem_map, List.getElem_map]
    exact (h j _ (List.getElem?_eq_getElem (by simpa using hj))).2.2 i _ hij (List.getElem?_eq_getElem (by simpa using hi))
set_option maxRecDepth 100000 in
set_option maxHeartbeats 8000000 in
theorem rTable_any (v : Value) (l : List RangeD) (w : World) (h : IsRgs w v l) : Calls Try.prog 26 #[v] w (IsTableP l w) := by
  have hm := h.max
  obtain ⟨ao, cap, rfl, -, -, -⟩ := h.form
  have HB := Lib.hid h
  clear h
  by_cases a1 : l.length < 1
  · have e1 : decide ((l.length : Int) < 1) = true := decide_eq_true (by omega)
    have HN : Hid (¬ tableP l) := Lib.hid (fun h => by have := h.1; omega)
    clear a1
    go_enter Try.func26, Try.ntmps26
    go_wp2_with fail
    go_ret
    exact isTableP_no HN.out (by repeat' (first | (with_reducible exact Below.refl _ _) | (with_reducible assumption) | (with_reducible refine Below.drew ?_) | (with_reducible refine below_drewN ?_ _) | (with_reducible refine bel_alloc ?_ _) | (with_reducible refine Below.setCell ?_ ?_ _) | (with_reducible refine bel_call ?_ (by assumption)) | (simp <;> omega)))
  have e1 : decide ((l.length : Int) < 1) = false := decide_eq_false (by omega)
  by_cases a2 : 32 < l.length
  · have e2 : decide ((32 : Int) < (l.length : Int)) = true := decide_eq_true (by omega)
    have HN : Hid (¬ tableP l) := Lib.hid (fun h => by have := h.2.1; omega)
    clear a2
    go_enter Try.func26, Try.ntmps26
    go_wp2_with fail
    go_ret
    exact isTableP_no HN.out (by repeat' (first | (with_reducible exact Below.refl _ _) | (with_reducible assumption) | (with_reducible refine Below.drew ?_) | (with_reducible refine below_drewN ?_ _) | (with_reducible refine bel_alloc ?_ _) | (with_reducible refine Below.setCell ?_ ?_ _) | (with_reducible refine bel_call ?_ (by assumption)) | (simp <;> omega)))
  have e2 : decide ((32 : Int) < (l.length : Int)) = false := decide_eq_false (by omega)
  have A1 := Lib.hid a1
  have A2 := Lib.hid a2
  obtain ⟨b, o, x0, fv0, tv0, hao, hbb, hx0, -, c1, -, -, hfv0, -, -⟩ := IsRgs.at4 HB.out (show 0 < l.length by omega)
  subst hao
  obtain ⟨b', o', x9, fv9, tv9, hao, hbb', hx9, -, -, c2, -, -, htv9, -⟩ := IsRgs.at4 HB.out (show l.length - 1 < l.length by omega)
  simp only [Option.some.injEq, Addr.mk.injEq, and_true] at hao
  obtain ⟨rfl, rfl⟩ := hao
  obtain ⟨fo0, fc0, rfl, -, -, -⟩ := hfv0.out.form
  obtain ⟨to9, tc9, rfl, -, -, -⟩ := htv9.out.form
  have t0 : (0 : Int) < l.length := by omega
  have t1 : ((l.length : Int) - 1).toNat = l.length - 1 := by omega
  have t2 : (0 : Int) ≤ (l.length : Int) - 1 := by omega
  have t4 := IntWalk.i64_in ((l.length : Int) - 1) (by omega)
  simp only [Nat.zero_mul, Nat.add_zero] at c1
  clear a1 a2
  by_cases a3 : 0 < x0.2.1.length
  · have e3 : decide (0 < x0.2.1.length) = true := decide_eq_true a3
    have HN : Hid (¬ tableP l) := Lib.hid (fun h => by have := (tableP_at h hx0.out).2.1; rw [this] at a3; exact absurd a3 (Nat.not_lt_zero _))
    clear a3
    go_enter Try.func26, Try.ntmps26
    go_wp2_with fail
    go_ret
    exact isTableP_no HN.out (by repeat' (first | (with_reducible exact Below.refl _ _) | (with_reducible assumption) | (with_reducible refine Below.drew ?_) | (with_reducible refine below_drewN ?_ _) | (with_reducible refine bel_alloc ?_ _) | (with_reducible refine Below.setCell ?_ ?_ _) | (with_reducible refine bel_call ?_ (by assumption)) | (simp <;> omega)))
  have e3 : decide (0 < x0.2.1.length) = false := decide_eq_false a3
  by_cases a4 : 0 < x9.2.2.1.length
  · have e4 : decide (0 < x9.2.2.1.length) = true := decide_eq_true a4
    have HN : Hid (¬ tableP l) := Lib.hid (fun h => by have := (tableP_at h hx9.out).2.2.2 (by have := A1.out; omega); omega)
    clear a3 a4
    go_enter Try.func26, Try.ntmps26
    go_wp2_with fail
    go_ret
    exact isTableP_no HN.out (by repeat' (first | (with_reducible exact Below.refl _ _) | (with_reducible assumption) | (with_reducible refine Below.drew ?_) | (with_reducible refine below_drewN ?_ _) | (with_reducible refine bel_alloc ?_ _) | (with_reducible refine Below.setCell ?_ ?_ _) | (with_reducible refine bel_call ?_ (by assumption)) | (simp <;> omega)))
  have e4 : decide (0 < x9.2.2.1.length) = false := decide_eq_false a4
  have HX0 : Hid (x0.2.1.length = 0) := Lib.hid (by omega)
  have HX9 : Hid (x9.2.2.1.length = 0) := Lib.hid (by omega)
  clear a3 a4
  go_enter Try.func26, Try.ntmps26
  go_wp2_with fail
  clear c1 c2 t1 t2 t4 e3 e4
  go_loopw [3] (fun i wr => ∃ k : Nat, k ≤ l.length ∧ i = .int .i64 k ∧ Hid (∀ j x, j < k → l[j]? = some x → docAt l j x) ∧ Hid (Below w.heap.size w wr)) (fun i _ => l.length - (intOf i).toNat)
  case atStart => exact ⟨0, Nat.zero_le _, rfl, fun j x hj => absurd hj (Nat.not_lt_zero _), Below.refl _ _⟩
  case round =>
    obtain ⟨k, hk, rfl, hall, hbel⟩ := hrel
    by_cases hlt : k < l.length
    · obtain ⟨b2, o2, x, fv, tv, hao, hbb2, hx, c0', c1', c2', c3', hfv, htv, hI⟩ := IsRgs.at4 HB.out hlt
      simp only [Option.some.injEq, Addr.mk.injEq, and_true] at hao
      obtain ⟨rfl, rfl⟩ := hao
      have c0 := (hbel.out.cell (p := ⟨b, o + k * 4, none⟩) hbb).trans c0'
      have c1 := (hbel.out.cell (p := ⟨b, o + k * 4 + 1, none⟩) hbb).trans c1'
      have c2 := (hbel.out.cell (p := ⟨b, o + k * 4 + 2, none⟩) hbb).trans c2'
      have c3 := (hbel.out.cell (p := ⟨b, o + k * 4 + 3, none⟩) hbb).trans c3'
      obtain ⟨fo, fc, rfl, -, -, -⟩ := hfv.out.form
      obtain ⟨to, tc, rfl, -, -, -⟩ := htv.out.form
      have hl0 : (k : Int) < l.length := by omega
      have hl1 : 0 ≤ (k : Int) := by omega
      have C0 := Lib.hid c0'; have C1 := Lib.hid c1'
      clear c0' c1' c2' c3' hbb2 hbb'
      have HR : Hid (Calls Try.prog _ _ wr (Ret (.bool (rightB x)) wr)) := Lib.hid (rRight_any _ _ x.1 x.2.2.2 x.2.1 x.2.2.1 wr (hfv.out.below hbel.out) (htv.out.below hbel.out))
      have HNO : Hid (¬ docAt l k x → ¬ tableP l) := Lib.hid (fun h h' => h (tableP_docAt h' hx.out))
      cases hR : rightB x
      · rw [hR] at HR
        have HF : Hid (¬ tableP l) := Lib.hid (HNO.out (fun h => by rw [h.1] at hR; cases hR))
        clear hR
        go_wp2_with fail
        refine HR.out.mono ?_
        rintro e w3 ⟨rfl, hb⟩
        have G3 := Lib.hid (bel_call hbel.out hb)
        clear hb
        go_wp2_with fail
        go_quiet (fail)
        go_wp2_with fail
        go_ret
        exact isTableP_no HF.out (below_drewN G3.out _)
      · rw [hR] at HR
        have HRR := Lib.hid hR
        clear hR
        go_wp2_with fail
        refine HR.out.mono ?_
        rintro e w3 ⟨rfl, hb⟩
        have G3 := Lib.hid (bel_call hbel.out hb)
        clear hb
        go_wp2_with fail
        have HCLOSE : Hid (∀ w' , Below w.heap.size w w' → (∀ j y, k = j + 1 → l[j]? = some y → y.2.2.1.length ≠ 0 ∧ y.2.2.1 = x.2.1) → (∀ m y, m < k → l[m]? = some y → y.1 ≠ x.1) →
            ∃ k' : Nat, k' ≤ l.length ∧ (.int .i64 ((k : Int) + 1) : Value) = .int .i64 k' ∧ Hid (∀ j x, j < k' → l[j]? = some x → docAt l j x) ∧ Hid (Below w.heap.size w w')) := Lib.hid (fun w' hb h2 h3 => by
          refine ⟨k + 1, hlt, by go_num, fun j y hj hy => ?_, hb⟩
          rcases Nat.lt_or_ge j k with h | h
          · exact hall.out j y h hy
          · have : j = k := by omega
            subst this
            have := hx.out
            rw [hy] at this
            cases this
            exact ⟨HRR.out, h2, h3⟩)
        have c0 := (G3.out.cell (p := ⟨b, o + k * 4, none⟩) hbb).trans C0.out
        have c1 := (G3.out.cell (p := ⟨b, o + k * 4 + 1, none⟩) hbb).trans C1.out
        have hw1 := IntWalk.i64_in ((k : Int) + 1) (by omega)
        by_cases k0 : k = 0
        · have f0 : decide (0 < k) = false := decide_eq_false (by omega)
          have K0 := Lib.hid k0
          clear k0
          go_quiet (fail)
          go_wp2_with fail
          generalize hW : w3.drewN nq = W
          have GW : Hid (Below w.heap.size w W) := Lib.hid (by rw [← hW]; exact below_drewN G3.out _)
          clear hW c0 c1
          go_loopw [5] (fun i wr => ∃ m : Nat, m ≤ k ∧ i = .int .i64 m ∧ Hid (∀ j y, j < m → l[j]? = some y → y.1 ≠ x.1) ∧ Hid (Below w.heap.size w wr)) (fun i _ => k - (intOf i).toNat)
          case atStart => exact ⟨0, Nat.zero_le _, rfl, fun j x hj => absurd hj (Nat.not_lt_zero _), GW.out⟩
          case round =>
            obtain ⟨m, hm, rfl, hids, hbel2⟩ := hrel
            by_cases hmk : m < k
            · obtain ⟨b4, o4, z, gv4, uv4, hao, hbb4, hz, e0', -, -, -, -, -, -⟩ := IsRgs.at4 HB.out (show m < l.length by omega)
              simp only [Option.some.injEq, Addr.mk.injEq, and_true] at hao
              obtain ⟨rfl, rfl⟩ := hao
              have c0 := (hbel2.out.cell (p := ⟨b, o + k * 4, none⟩) hbb).trans C0.out
              have e0 := (hbel2.out.cell (p := ⟨b, o + m * 4, none⟩) hbb).trans e0'
              have hm0 : (m : Int) < (k : Int) := by omega
              have hm1 : (0 : Int) ≤ (m : Int) := by omega
              have hm2 : (m : Int) < l.length := by omega
              have hw2 := IntWalk.i64_in ((m : Int) + 1) (by omega)
              clear e0' hbb4
              cases hz1 : (z.1 == x.1)
              · have HN2 : Hid (∀ j y, j < m + 1 → l[j]? = some y → y.1 ≠ x.1) := Lib.hid (fun j y hj hy => by
                  rcases Nat.lt_or_ge j m with h | h
                  · exact hids.out j y h hy
                  · have : j = m := by omega
                    subst this
                    have := hz.out
                    rw [hy] at this
                    cases this
                    exact beq_eq_false_iff_ne.1 hz1)
                go_wp2_with fail
                go_quiet (fail)
                go_wp2_with fail
                go_roundw
                case rel => exact ⟨m + 1, by omega, by go_num, HN2.out, below_drewN hbel2.out _⟩
                case measure => simp [intOf]; omega
              · have HF : Hid (¬ tableP l) := Lib.hid (HNO.out (fun h => h.2.2 m z hmk hz.out (beq_iff_eq.1 hz1)))
                go_wp2_with fail
                go_quiet (fail)
                go_wp2_with fail
                go_ret
                exact isTableP_no HF.out (below_drewN hbel2.out _)
            · have hkm : m = k := by omega
              subst hkm
              go_wp2_with fail
              go_roundw
              case rel => exact HCLOSE.out _ hbel2.out (fun j y hj _ => by have := K0.out; omega) hids.out
              case measure => simp [intOf]; omega
        · have f0 : decide (0 < k) = true := decide_eq_true (by omega)
          have t1 : ((k : Int) - 1).toNat = k - 1 := by omega
          have t2 : (0 : Int) ≤ (k : Int) - 1 := by omega
          have t3 : (k : Int) - 1 < l.length := by omega
          have t4 := IntWalk.i64_in ((k : Int) - 1) (by omega)
          obtain ⟨b3, o3, y, gv, uv, hao, hbb3, hy, -, -, d2', -, -, huv, -⟩ := IsRgs.at4 HB.out (show k - 1 < l.length by omega)
          simp only [Option.some.injEq, Addr.mk.injEq, and_true] at hao
          obtain ⟨rfl, rfl⟩ := hao
          have d2 := (G3.out.cell (p := ⟨b, o + (k - 1) * 4 + 2, none⟩) hbb).trans d2'
          obtain ⟨uo, uc, rfl, -, -, -⟩ := huv.out.form
          have kc := fun nq => (hfv.out.below (below_drewN G3.out nq)).conv Try.underlying23 Try.underlying5 Try.underlying9
          have kd := fun nq => (huv.out.below (below_drewN G3.out nq)).conv Try.underlying23 Try.underlying5 Try.underlying9
          have s3 := str_beq huv.out.rng hfv.out.rng
          have K0 := Lib.hid k0
          have HY : Hid (∀ j z, k = j + 1 → l[j]? = some z → z = y) := Lib.hid (fun j z hj hz => by
            have h := hy.out
            rw [show k - 1 = j by omega, hz] at h
            exact Option.some.inj h)
          clear k0 d2' hbb3
          by_cases h1 : y.2.2.1.length = 0
          · have f1 : ((y.2.2.1.length : Int) == 0) = true := by rw [h1]; rfl
            have HF : Hid (¬ tableP l) := Lib.hid (HNO.out (fun h => (h.2.1 (k - 1) y (by have := K0.out; omega) hy.out).1 h1))
            clear h1
            go_quiet (fail)
            go_wp2_with fail
            go_ret
            exact isTableP_no HF.out (below_drewN G3.out _)
          · have f1 : ((y.2.2.1.length : Int) == 0) = false := beq_eq_false_iff_ne.2 (by omega)
            by_cases h2 : y.2.2.1 = x.2.1
            · rw [decide_eq_true h2] at s3
              have HP : Hid (∀ j z, k = j + 1 → l[j]? = some z → z.2.2.1.length ≠ 0 ∧ z.2.2.1 = x.2.1) := Lib.hid (fun j z hj hz => by rw [HY.out j z hj hz]; exact ⟨h1, h2⟩)
              clear h1 h2
              go_quiet (fail)
              clear t1 t2 t3 t4 d2 c1 s3 kc kd
              go_wp2_with fail
              generalize hW : w3.drewN nq = W
              have GW : Hid (Below w.heap.size w W) := Lib.hid (by rw [← hW]; exact below_drewN G3.out _)
              clear hW c0 c1
              go_loopw [5] (fun i wr => ∃ m : Nat, m ≤ k ∧ i = .int .i64 m ∧ Hid (∀ j y, j < m → l[j]? = some y → y.1 ≠ x.1) ∧ Hid (Below w.heap.size w wr)) (fun i _ => k - (intOf i).toNat)
              case atStart => exact ⟨0, Nat.zero_le _, rfl, fun j x hj => absurd hj (Nat.not_lt_zero _), GW.out⟩
              case round =>
                obtain ⟨m, hm, rfl, hids, hbel2⟩ := hrel
                by_cases hmk : m < k
                · obtain ⟨b4, o4, z, gv4, uv4, hao, hbb4, hz, e0', -, -, -, -, -, -⟩ := IsRgs.at4 HB.out (show m < l.length by omega)
                  simp only [Option.some.injEq, Addr.mk.injEq, and_true] at hao
                  obtain ⟨rfl, rfl⟩ := hao
                  have c0 := (hbel2.out.cell (p := ⟨b, o + k * 4, none⟩) hbb).trans C0.out
                  have e0 := (hbel2.out.cell (p := ⟨b, o + m * 4, none⟩) hbb).trans e0'
                  have hm0 : (m : Int) < (k : Int) := by omega
                  have hm1 : (0 : Int) ≤ (m : Int) := by omega
                  have hm2 : (m : Int) < l.length := by omega
                  have hw2 := IntWalk.i64_in ((m : Int) + 1) (by omega)
                  clear e0' hbb4
                  cases hz1 : (z.1 == x.1)
                  · have HN2 : Hid (∀ j y, j < m + 1 → l[j]? = some y → y.1 ≠ x.1) := Lib.hid (fun j y hj hy => by
                      rcases Nat.lt_or_ge j m with h | h
                      · exact hids.out j y h hy
                      · have : j = m := by omega
                        subst this
                        have := hz.out
                        rw [hy] at this
                        cases this
                        exact beq_eq_false_iff_ne.1 hz1)
                    go_wp2_with fail
                    go_quiet (fail)
                    go_wp2_with fail
                    go_roundw
                    case rel => exact ⟨m + 1, by omega, by go_num, HN2.out, below_drewN hbel2.out _⟩
                    case measure => simp [intOf]; omega
                  · have HF : Hid (¬ tableP l) := Lib.hid (HNO.out (fun h => h.2.2 m z hmk hz.out (beq_iff_eq.1 hz1)))
                    go_wp2_with fail
                    go_quiet (fail)
                    go_wp2_with fail
                    go_ret
                    exact isTableP_no HF.out (below_drewN hbel2.out _)
                · have hkm : m = k := by omega
                  subst hkm
                  go_wp2_with fail
                  go_roundw
                  case rel => exact HCLOSE.out _ hbel2.out HP.out hids.out
                  case measure => simp [intOf]; omega
            · rw [decide_eq_false h2] at s3
              have HF : Hid (¬ tableP l) := Lib.hid (HNO.out (fun h => h2 (h.2.1 (k - 1) y (by have := K0.out; omega) hy.out).2))
              clear h1 h2
              go_quiet (fail)
              go_wp2_with fail
              go_ret
              exact isTableP_no HF.out (below_drewN G3.out _)
    · have hkl : k = l.length := by omega
      subst hkl
      have HT : Hid (tableP l) := Lib.hid (tableP_intro (by have := A1.out; omega) (by have := A2.out; omega) (fun x hx => by have := hx0.out; rw [hx] at this; cases this; exact HX0.out) (fun x hx => by have := hx9.out; rw [hx] at this; cases this; exact HX9.out) (fun k x hx => hall.out k x (List.getElem?_eq_some_iff.1 hx).1 hx))
      go_wp2_with fail
      go_ret
      exact ⟨fun _ => rfl, fun h => absurd HT.out h, hbel.out⟩
end Rm
end Go.Proofs.Ytbeniogffhihlaa
