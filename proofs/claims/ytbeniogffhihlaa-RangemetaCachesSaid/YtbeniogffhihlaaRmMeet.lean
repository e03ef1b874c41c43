/- rangemeta: what two spans share; whether they meet. -/
import Derived.Test.YtbeniogffhihlaaRmRef3
set_option linter.unusedVariables false
set_option linter.unusedSimpArgs false
namespace Go.Proofs.Ytbeniogffhihlaa
open Go.RowKit
theorem OwnS.set {w : World} {base : Nat} {e : TypeId} {v : Value} {l : List Int} (h : OwnS w base e v l) {p : Addr} (hne : ∀ b, v.ownBlock = some b → b ≠ p.block) (x : Value) : OwnS (w.setCell p x) base e v l :=
  h.kept (gb_set (gb_refl w (some p.block)) (.inl rfl) x) (.inr fun h => hne _ h rfl)
namespace Rm
def shareD (a b : SpanD) : SpanD := (if 0 < cmpB b.1 a.1 then b.1 else a.1, if a.2.length = 0 then b.2 else if b.2.length = 0 then a.2 else if cmpB b.2 a.2 < 0 then b.2 else a.2)
def meetB (a b : SpanD) : Bool := !emptyB a && !emptyB b && !emptyB (shareD a b)
set_option maxRecDepth 100000 in
set_option maxHeartbeats 8000000 in
theorem share_any (afv atv bfv btv : Value) (af at_ bf bt : List Int) (w : World) (haf : IsB w afv af) (hat : IsB w atv at_) (hbf : IsB w bfv bf) (hbt : IsB w btv bt)
    (l1 : af.length ≤ 140737488355328) (l2 : at_.length ≤ 140737488355328) (l3 : bf.length ≤ 140737488355328) (l4 : bt.length ≤ 140737488355328) :
    Calls Try.prog 79 #[.agg #[afv, atv], .agg #[bfv, btv]] w (CopiedP (shareD (af, at_) (bf, bt)).1 (shareD (af, at_) (bf, bt)).2 w) := by
  obtain ⟨afo, afc, rfl, -, -, -⟩ := haf.form
  obtain ⟨ato, atc, rfl, -, -, -⟩ := hat.form
  obtain ⟨bfo, bfc, rfl, -, -, -⟩ := hbf.form
  obtain ⟨bto, btc, rfl, -, -, -⟩ := hbt.form
  have HBF := Lib.hid hbf
  have HBT := Lib.hid hbt
  have L3 := Lib.hid l3
  have L4 := Lib.hid l4
  have m1 := hat.max
  have m2 := hbt.max
  have HC := Lib.hid (copied_any _ _ af at_ (((w.alloc (.cells #[.slice afo af.length afc, .slice ato at_.length atc] 25)).alloc (.cells #[.slice bfo bf.length bfc, .slice bto bt.length btc] 25)).alloc (.cells #[.slice none 0 0, .slice none 0 0] 25)) (((haf.alloc (.cells #[.slice afo af.length afc, .slice ato at_.length atc] 25)).alloc (.cells #[.slice bfo bf.length bfc, .slice bto bt.length btc] 25)).alloc (.cells #[.slice none 0 0, .slice none 0 0] 25)) (((hat.alloc (.cells #[.slice afo af.length afc, .slice ato at_.length atc] 25)).alloc (.cells #[.slice bfo bf.length bfc, .slice bto bt.length btc] 25)).alloc (.cells #[.slice none 0 0, .slice none 0 0] 25)) l1 l2)
  have G0 : Hid (Below w.heap.size w (((w.alloc (.cells #[.slice afo af.length afc, .slice ato at_.length atc] 25)).alloc (.cells #[.slice bfo bf.length bfc, .slice bto bt.length btc] 25)).alloc (.cells #[.slice none 0 0, .slice none 0 0] 25))) := Lib.hid ((((Below.refl _ w).alloc (Nat.le_refl _) _).alloc (by simp) _).alloc (by simp; omega) _)
  unfold CopiedP at HC
  clear haf hat hbf hbt l1 l2 l3 l4
  go_enter Try.func79, Try.ntmps79
  go_wp2_with fail
  refine HC.out.mono ?_
  rintro e w1 ⟨v1, v2, rfl, h1, h2, hb⟩
  have z1 : w.heap.size + 3 ≤ w1.heap.size := by have := hb.size; simp at this; omega
  have y1 : w.heap.size + 1 < w1.heap.size := by omega
  have y2 : w.heap.size + 1 + 1 < w1.heap.size := by omega
  replace k0 : w1.cell? ⟨w.heap.size + 1, 0, none⟩ = some (.slice bfo bf.length bfc) := (hb.cell (p := ⟨w.heap.size + 1, 0, none⟩) (by simp <;> omega)).trans (by go_simp); replace k0f : w1.frozen? ⟨w.heap.size + 1, 0, none⟩ = false := (hb.frozen (p := ⟨w.heap.size + 1, 0, none⟩) (by simp <;> omega)).trans (by go_simp); replace k1 : w1.cell? ⟨w.heap.size + 1, 1, none⟩ = some (.slice bto bt.length btc) := (hb.cell (p := ⟨w.heap.size + 1, 1, none⟩) (by simp <;> omega)).trans (by go_simp); replace k1f : w1.frozen? ⟨w.heap.size + 1, 1, none⟩ = false := (hb.frozen (p := ⟨w.heap.size + 1, 1, none⟩) (by simp <;> omega)).trans (by go_simp); replace k2 : w1.cell? ⟨w.heap.size + 1 + 1, 0, none⟩ = some (.slice none 0 0) := (hb.cell (p := ⟨w.heap.size + 1 + 1, 0, none⟩) (by simp <;> omega)).trans (by go_simp); replace k2f : w1.frozen? ⟨w.heap.size + 1 + 1, 0, none⟩ = false := (hb.frozen (p := ⟨w.heap.size + 1 + 1, 0, none⟩) (by simp <;> omega)).trans (by go_simp); replace k3 : w1.cell? ⟨w.heap.size + 1 + 1, 1, none⟩ = some (.slice none 0 0) := (hb.cell (p := ⟨w.heap.size + 1 + 1, 1, none⟩) (by simp <;> omega)).trans (by go_simp); replace k3f : w1.frozen? ⟨w.heap.size + 1 + 1, 1, none⟩ = false := (hb.frozen (p := ⟨w.heap.size + 1 + 1, 1, none⟩) (by simp <;> omega)).trans (by go_simp)
  have G1 : Hid (Below w.heap.size w w1) := Lib.hid (bel_call G0.out hb)
  obtain ⟨fo1, fc1, rfl, -, -, -, -⟩ := h1.form
  obtain ⟨to1, tc1, rfl, -, -, -, -⟩ := h2.form
  have e3 : (((w.alloc (.cells #[.slice afo af.length afc, .slice ato at_.length atc] 25)).alloc (.cells #[.slice bfo bf.length bfc, .slice bto bt.length btc] 25)).alloc (.cells #[.slice none 0 0, .slice none 0 0] 25)).heap.size = w.heap.size + 3 := by simp
  rw [e3] at h1 h2
  have B1 : Hid (∀ b, (Value.slice fo1 af.length fc1).ownBlock = some b → w.heap.size + 3 ≤ b ∧ b < w1.heap.size) := Lib.hid (fun b hb => h1.lt b hb)
  have B2 : Hid (∀ b, (Value.slice to1 at_.length tc1).ownBlock = some b → w.heap.size + 3 ≤ b ∧ b < w1.heap.size) := Lib.hid (fun b hb => h2.lt b hb)
  have ha : Below w1.heap.size w1 (w1.alloc (.cells #[.slice fo1 af.length fc1, .slice to1 at_.length tc1] 25)) := (Below.refl _ w1).alloc (Nat.le_refl _) _
  have H1o := Lib.hid h1
  have H2o := Lib.hid h2
  have H1 := Lib.hid (h1.below ha)
  have H2 := Lib.hid (h2.below ha)
  have GA := Lib.hid (bel_call G1.out ha)
  clear h1 h2 hb ha HC e3
  have HCF := Lib.hid (bcompare_any _ _ bf af (w1.alloc (.cells #[.slice fo1 af.length fc1, .slice to1 at_.length tc1] 25)) (HBF.out.below GA.out) H1.out.isB)
  generalize hcf : cmpB bf af = cf at *
  have HCFE := Lib.hid hcf
  clear hcf
  go_wp2_with fail
  refine HCF.out.mono ?_
  rintro e w9 ⟨rfl, hw⟩
  subst hw

  by_cases q0 : 0 < cf
  · have Q0 := Lib.hid q0
    have f0 : decide (0 < cf) = true := decide_eq_true q0
    clear q0
    have GZ := GA
    have HK := Lib.hid (cloneB_any _ bf _ (HBF.out.below GZ.out) L3.out)
    unfold CloneP at HK
    go_wp2_with fail
    refine HK.out.mono ?_
    rintro e w2 ⟨v2, rfl, h, hb⟩
    obtain ⟨vo2, vc2, rfl, -, -, -, -⟩ := h.form
    replace k0 : w2.cell? ⟨w.heap.size + 1, 0, none⟩ = some (.slice bfo bf.length bfc) := (hb.cell (p := ⟨w.heap.size + 1, 0, none⟩) (by simp <;> omega)).trans (by go_simp); replace k0f : w2.frozen? ⟨w.heap.size + 1, 0, none⟩ = false := (hb.frozen (p := ⟨w.heap.size + 1, 0, none⟩) (by simp <;> omega)).trans (by go_simp); replace k1 : w2.cell? ⟨w.heap.size + 1, 1, none⟩ = some (.slice bto bt.length btc) := (hb.cell (p := ⟨w.heap.size + 1, 1, none⟩) (by simp <;> omega)).trans (by go_simp); replace k1f : w2.frozen? ⟨w.heap.size + 1, 1, none⟩ = false := (hb.frozen (p := ⟨w.heap.size + 1, 1, none⟩) (by simp <;> omega)).trans (by go_simp); replace k2 : w2.cell? ⟨w.heap.size + 1 + 1, 0, none⟩ = some (.slice none 0 0) := (hb.cell (p := ⟨w.heap.size + 1 + 1, 0, none⟩) (by simp <;> omega)).trans (by go_simp); replace k2f : w2.frozen? ⟨w.heap.size + 1 + 1, 0, none⟩ = false := (hb.frozen (p := ⟨w.heap.size + 1 + 1, 0, none⟩) (by simp <;> omega)).trans (by go_simp); replace k3 : w2.cell? ⟨w.heap.size + 1 + 1, 1, none⟩ = some (.slice none 0 0) := (hb.cell (p := ⟨w.heap.size + 1 + 1, 1, none⟩) (by simp <;> omega)).trans (by go_simp); replace k3f : w2.frozen? ⟨w.heap.size + 1 + 1, 1, none⟩ = false := (hb.frozen (p := ⟨w.heap.size + 1 + 1, 1, none⟩) (by simp <;> omega)).trans (by go_simp); replace k4 : w2.cell? ⟨w1.heap.size, 0, none⟩ = some (.slice fo1 af.length fc1) := (hb.cell (p := ⟨w1.heap.size, 0, none⟩) (by simp <;> omega)).trans (by go_simp); replace k4f : w2.frozen? ⟨w1.heap.size, 0, none⟩ = false := (hb.frozen (p := ⟨w1.heap.size, 0, none⟩) (by simp <;> omega)).trans (by go_simp); replace k5 : w2.cell? ⟨w1.heap.size, 1, none⟩ = some (.slice to1 at_.length tc1) := (hb.cell (p := ⟨w1.heap.size, 1, none⟩) (by simp <;> omega)).trans (by go_simp); replace k5f : w2.frozen? ⟨w1.heap.size, 1, none⟩ = false := (hb.frozen (p := ⟨w1.heap.size, 1, none⟩) (by simp <;> omega)).trans (by go_simp)
    have zz : w1.heap.size + 1 ≤ w2.heap.size := by have := hb.size; simp at this; omega
    have x1 : w.heap.size + 1 < w2.heap.size := by omega
    have x2 : w.heap.size + 1 + 1 < w2.heap.size := by omega
    have x3 : w1.heap.size < w2.heap.size := by omega
    have h9 := (H2.out.below hb).set (p := ⟨w1.heap.size, 0, none⟩) (fun b hb => by have := B2.out b hb; simp; omega) (.slice vo2 bf.length vc2)
    replace H2 := Lib.hid h9
    clear h9
    have BV2 : Hid (∀ b, (Value.slice vo2 bf.length vc2).ownBlock = some b → w1.heap.size + 1 ≤ b ∧ b < w2.heap.size) := Lib.hid (fun b hb => by have := h.lt b hb; simp at this; omega)
    have HV2 := Lib.hid ((h.mono (show w.heap.size + 3 ≤ _ by simp; omega)).set (p := ⟨w1.heap.size, 0, none⟩) (fun b hb => by have := (BV2.out b hb).1; simp; omega) (.slice vo2 bf.length vc2))
    replace GZ := Lib.hid ((bel_call GZ.out hb).setCell (p := ⟨w1.heap.size, 0, none⟩) (by simp only; omega) (.slice vo2 bf.length vc2))
    clear h hb HK
    have B2w := B2
    by_cases q1 : at_.length = 0
    · have Q1 := Lib.hid q1
      have f1 : ((at_.length : Int) == 0) = true := by rw [q1]; rfl
      clear q1
      have HK := Lib.hid (cloneB_any _ bt _ (HBT.out.below GZ.out) L4.out)
      unfold CloneP at HK
      go_wp2_with fail
      refine HK.out.mono ?_
      rintro e w3 ⟨v3, rfl, h, hb⟩
      obtain ⟨vo3, vc3, rfl, -, -, -, -⟩ := h.form
      replace k0 : w3.cell? ⟨w.heap.size + 1, 0, none⟩ = some (.slice bfo bf.length bfc) := (hb.cell (p := ⟨w.heap.size + 1, 0, none⟩) (by simp <;> omega)).trans (by go_simp); replace k0f : w3.frozen? ⟨w.heap.size + 1, 0, none⟩ = false := (hb.frozen (p := ⟨w.heap.size + 1, 0, none⟩) (by simp <;> omega)).trans (by go_simp); replace k1 : w3.cell? ⟨w.heap.size + 1, 1, none⟩ = some (.slice bto bt.length btc) := (hb.cell (p := ⟨w.heap.size + 1, 1, none⟩) (by simp <;> omega)).trans (by go_simp); replace k1f : w3.frozen? ⟨w.heap.size + 1, 1, none⟩ = false := (hb.frozen (p := ⟨w.heap.size + 1, 1, none⟩) (by simp <;> omega)).trans (by go_simp); replace k2 : w3.cell? ⟨w.heap.size + 1 + 1, 0, none⟩ = some (.slice none 0 0) := (hb.cell (p := ⟨w.heap.size + 1 + 1, 0, none⟩) (by simp <;> omega)).trans (by go_simp); replace k2f : w3.frozen? ⟨w.heap.size + 1 + 1, 0, none⟩ = false := (hb.frozen (p := ⟨w.heap.size + 1 + 1, 0, none⟩) (by simp <;> omega)).trans (by go_simp); replace k3 : w3.cell? ⟨w.heap.size + 1 + 1, 1, none⟩ = some (.slice none 0 0) := (hb.cell (p := ⟨w.heap.size + 1 + 1, 1, none⟩) (by simp <;> omega)).trans (by go_simp); replace k3f : w3.frozen? ⟨w.heap.size + 1 + 1, 1, none⟩ = false := (hb.frozen (p := ⟨w.heap.size + 1 + 1, 1, none⟩) (by simp <;> omega)).trans (by go_simp); replace k4 : w3.cell? ⟨w1.heap.size, 0, none⟩ = some (.slice vo2 bf.length vc2) := (hb.cell (p := ⟨w1.heap.size, 0, none⟩) (by simp <;> omega)).trans (by go_simp); replace k4f : w3.frozen? ⟨w1.heap.size, 0, none⟩ = false := (hb.frozen (p := ⟨w1.heap.size, 0, none⟩) (by simp <;> omega)).trans (by go_simp); replace k5 : w3.cell? ⟨w1.heap.size, 1, none⟩ = some (.slice to1 at_.length tc1) := (hb.cell (p := ⟨w1.heap.size, 1, none⟩) (by simp <;> omega)).trans (by go_simp); replace k5f : w3.frozen? ⟨w1.heap.size, 1, none⟩ = false := (hb.frozen (p := ⟨w1.heap.size, 1, none⟩) (by simp <;> omega)).trans (by go_simp)
      have zz : w1.heap.size + 1 ≤ w3.heap.size := by have := hb.size; simp at this; omega
      have x1 : w.heap.size + 1 < w3.heap.size := by omega
      have x2 : w.heap.size + 1 + 1 < w3.heap.size := by omega
      have x3 : w1.heap.size < w3.heap.size := by omega
      have h9 := (HV2.out.below hb).set (p := ⟨w1.heap.size, 1, none⟩) (fun b hb => by have := BV2.out b hb; simp; omega) (.slice vo3 bt.length vc3)
      replace HV2 := Lib.hid h9
      clear h9
      have BV3 : Hid (∀ b, (Value.slice vo3 bt.length vc3).ownBlock = some b → w1.heap.size + 1 ≤ b ∧ b < w3.heap.size) := Lib.hid (fun b hb => by have := h.lt b hb; simp at this; omega)
      have HV3 := Lib.hid ((h.mono (show w.heap.size + 3 ≤ _ by simp; omega)).set (p := ⟨w1.heap.size, 1, none⟩) (fun b hb => by have := (BV3.out b hb).1; simp; omega) (.slice vo3 bt.length vc3))
      replace GZ := Lib.hid ((bel_call GZ.out hb).setCell (p := ⟨w1.heap.size, 1, none⟩) (by simp only; omega) (.slice vo3 bt.length vc3))
      clear h hb HK
      have HSD : Hid (shareD (af, at_) (bf, bt) = (bf, bt)) := Lib.hid (by unfold shareD; dsimp only; rw [HCFE.out, if_pos (by have := Q0.out; omega), if_pos (by have := Q1.out; omega)])
      go_wp2_with fail
      rw [HSD.out]
      refine bodyPost_ret (v := .agg #[.slice vo2 bf.length vc2, .slice vo3 bt.length vc3]) (by simp [results, Try.results79, go_sem]; go_simp) rfl ⟨_, _, rfl, ?_, ?_, ?_⟩
      · exact ((HV2.out.set (fun b hb => by have := (BV2.out b hb).1; simp; omega) _).set (fun b hb => by have := (BV2.out b hb).1; simp; omega) _).mono (by omega)
      · exact ((HV3.out.set (fun b hb => by have := (BV3.out b hb).1; simp; omega) _).set (fun b hb => by have := (BV3.out b hb).1; simp; omega) _).mono (by omega)
      · exact (GZ.out.setCell (p := ⟨w.heap.size + 1 + 1, 0, none⟩) (by simp only; omega) _).setCell (p := ⟨w.heap.size + 1 + 1, 1, none⟩) (by simp only; omega) _
    · have Q1 := Lib.hid q1
      have f1 : ((at_.length : Int) == 0) = false := beq_eq_false_iff_ne.2 (by omega)
      clear q1
      by_cases q2 : bt.length = 0
      · have Q2 := Lib.hid q2
        have f2 : decide (0 < bt.length) = false := decide_eq_false (by omega)
        clear q2
        have HSD : Hid (shareD (af, at_) (bf, bt) = (bf, at_)) := Lib.hid (by unfold shareD; dsimp only; rw [HCFE.out, if_pos (by have := Q0.out; omega), if_neg (by have := Q1.out; omega), if_pos (by have := Q2.out; omega)])
        go_wp2_with fail
        rw [HSD.out]
        refine bodyPost_ret (v := .agg #[.slice vo2 bf.length vc2, .slice to1 at_.length tc1]) (by simp [results, Try.results79, go_sem]; go_simp) rfl ⟨_, _, rfl, ?_, ?_, ?_⟩
        · exact ((HV2.out.set (fun b hb => by have := (BV2.out b hb).1; simp; omega) _).set (fun b hb => by have := (BV2.out b hb).1; simp; omega) _).mono (by omega)
        · exact ((H2.out.set (fun b hb => by have := (B2.out b hb).1; simp; omega) _).set (fun b hb => by have := (B2.out b hb).1; simp; omega) _).mono (by omega)
        · exact (GZ.out.setCell (p := ⟨w.heap.size + 1 + 1, 0, none⟩) (by simp only; omega) _).setCell (p := ⟨w.heap.size + 1 + 1, 1, none⟩) (by simp only; omega) _
      · skip
        have f2 : decide (0 < bt.length) = true := decide_eq_true (by omega)
        have HCT := Lib.hid (bcompare_any _ _ bt at_ _ (HBT.out.below GZ.out) H2.out.isB)
        generalize hct : cmpB bt at_ = ct at *
        have Q2 := Lib.hid q2; have HCTE := Lib.hid hct
        clear q2 hct
        go_wp2_with fail
        refine HCT.out.mono ?_
        rintro e w9 ⟨rfl, hw⟩
        subst hw
        by_cases q3 : ct < 0
        · have Q3 := Lib.hid q3
          have f3 : decide (ct < 0) = true := decide_eq_true q3
          clear q3
          have HK := Lib.hid (cloneB_any _ bt _ (HBT.out.below GZ.out) L4.out)
          unfold CloneP at HK
          go_wp2_with fail
          refine HK.out.mono ?_
          rintro e w3 ⟨v3, rfl, h, hb⟩
          obtain ⟨vo3, vc3, rfl, -, -, -, -⟩ := h.form
          replace k0 : w3.cell? ⟨w.heap.size + 1, 0, none⟩ = some (.slice bfo bf.length bfc) := (hb.cell (p := ⟨w.heap.size + 1, 0, none⟩) (by simp <;> omega)).trans (by go_simp); replace k0f : w3.frozen? ⟨w.heap.size + 1, 0, none⟩ = false := (hb.frozen (p := ⟨w.heap.size + 1, 0, none⟩) (by simp <;> omega)).trans (by go_simp); replace k1 : w3.cell? ⟨w.heap.size + 1, 1, none⟩ = some (.slice bto bt.length btc) := (hb.cell (p := ⟨w.heap.size + 1, 1, none⟩) (by simp <;> omega)).trans (by go_simp); replace k1f : w3.frozen? ⟨w.heap.size + 1, 1, none⟩ = false := (hb.frozen (p := ⟨w.heap.size + 1, 1, none⟩) (by simp <;> omega)).trans (by go_simp); replace k2 : w3.cell? ⟨w.heap.size + 1 + 1, 0, none⟩ = some (.slice none 0 0) := (hb.cell (p := ⟨w.heap.size + 1 + 1, 0, none⟩) (by simp <;> omega)).trans (by go_simp); replace k2f : w3.frozen? ⟨w.heap.size + 1 + 1, 0, none⟩ = false := (hb.frozen (p := ⟨w.heap.size + 1 + 1, 0, none⟩) (by simp <;> omega)).trans (by go_simp); replace k3 : w3.cell? ⟨w.heap.size + 1 + 1, 1, none⟩ = some (.slice none 0 0) := (hb.cell (p := ⟨w.heap.size + 1 + 1, 1, none⟩) (by simp <;> omega)).trans (by go_simp); replace k3f : w3.frozen? ⟨w.heap.size + 1 + 1, 1, none⟩ = false := (hb.frozen (p := ⟨w.heap.size + 1 + 1, 1, none⟩) (by simp <;> omega)).trans (by go_simp); replace k4 : w3.cell? ⟨w1.heap.size, 0, none⟩ = some (.slice vo2 bf.length vc2) := (hb.cell (p := ⟨w1.heap.size, 0, none⟩) (by simp <;> omega)).trans (by go_simp); replace k4f : w3.frozen? ⟨w1.heap.size, 0, none⟩ = false := (hb.frozen (p := ⟨w1.heap.size, 0, none⟩) (by simp <;> omega)).trans (by go_simp); replace k5 : w3.cell? ⟨w1.heap.size, 1, none⟩ = some (.slice to1 at_.length tc1) := (hb.cell (p := ⟨w1.heap.size, 1, none⟩) (by simp <;> omega)).trans (by go_simp); replace k5f : w3.frozen? ⟨w1.heap.size, 1, none⟩ = false := (hb.frozen (p := ⟨w1.heap.size, 1, none⟩) (by simp <;> omega)).trans (by go_simp)
          have zz : w1.heap.size + 1 ≤ w3.heap.size := by have := hb.size; simp at this; omega
          have x1 : w.heap.size + 1 < w3.heap.size := by omega
          have x2 : w.heap.size + 1 + 1 < w3.heap.size := by omega
          have x3 : w1.heap.size < w3.heap.size := by omega
          have h9 := (HV2.out.below hb).set (p := ⟨w1.heap.size, 1, none⟩) (fun b hb => by have := BV2.out b hb; simp; omega) (.slice vo3 bt.length vc3)
          replace HV2 := Lib.hid h9
          clear h9
          have BV3 : Hid (∀ b, (Value.slice vo3 bt.length vc3).ownBlock = some b → w1.heap.size + 1 ≤ b ∧ b < w3.heap.size) := Lib.hid (fun b hb => by have := h.lt b hb; simp at this; omega)
          have HV3 := Lib.hid ((h.mono (show w.heap.size + 3 ≤ _ by simp; omega)).set (p := ⟨w1.heap.size, 1, none⟩) (fun b hb => by have := (BV3.out b hb).1; simp; omega) (.slice vo3 bt.length vc3))
          replace GZ := Lib.hid ((bel_call GZ.out hb).setCell (p := ⟨w1.heap.size, 1, none⟩) (by simp only; omega) (.slice vo3 bt.length vc3))
          clear h hb HK
          have HSD : Hid (shareD (af, at_) (bf, bt) = (bf, bt)) := Lib.hid (by unfold shareD; dsimp only; rw [HCFE.out, if_pos (by have := Q0.out; omega), if_neg (by have := Q1.out; omega), if_neg (by have := Q2.out; omega), HCTE.out, if_pos (by have := Q3.out; omega)])
          go_wp2_with fail
          rw [HSD.out]
          refine bodyPost_ret (v := .agg #[.slice vo2 bf.length vc2, .slice vo3 bt.length vc3]) (by simp [results, Try.results79, go_sem]; go_simp) rfl ⟨_, _, rfl, ?_, ?_, ?_⟩
          · exact ((HV2.out.set (fun b hb => by have := (BV2.out b hb).1; simp; omega) _).set (fun b hb => by have := (BV2.out b hb).1; simp; omega) _).mono (by omega)
          · exact ((HV3.out.set (fun b hb => by have := (BV3.out b hb).1; simp; omega) _).set (fun b hb => by have := (BV3.out b hb).1; simp; omega) _).mono (by omega)
          · exact (GZ.out.setCell (p := ⟨w.heap.size + 1 + 1, 0, none⟩) (by simp only; omega) _).setCell (p := ⟨w.heap.size + 1 + 1, 1, none⟩) (by simp only; omega) _
        · have Q3 := Lib.hid q3
          have f3 : decide (ct < 0) = false := decide_eq_false q3
          clear q3
          have HSD : Hid (shareD (af, at_) (bf, bt) = (bf, at_)) := Lib.hid (by unfold shareD; dsimp only; rw [HCFE.out, if_pos (by have := Q0.out; omega), if_neg (by have := Q1.out; omega), if_neg (by have := Q2.out; omega), HCTE.out, if_neg (by have := Q3.out; omega)])
          go_wp2_with fail
          rw [HSD.out]
          refine bodyPost_ret (v := .agg #[.slice vo2 bf.length vc2, .slice to1 at_.length tc1]) (by simp [results, Try.results79, go_sem]; go_simp) rfl ⟨_, _, rfl, ?_, ?_, ?_⟩
          · exact ((HV2.out.set (fun b hb => by have := (BV2.out b hb).1; simp; omega) _).set (fun b hb => by have := (BV2.out b hb).1; simp; omega) _).mono (by omega)
          · exact ((H2.out.set (fun b hb => by have := (B2.out b hb).1; simp; omega) _).set (fun b hb => by have := (B2.out b hb).1; simp; omega) _).mono (by omega)
          · exact (GZ.out.setCell (p := ⟨w.heap.size + 1 + 1, 0, none⟩) (by simp only; omega) _).setCell (p := ⟨w.heap.size + 1 + 1, 1, none⟩) (by simp only; omega) _
  · have Q0 := Lib.hid q0
    have f0 : decide (0 < cf) = false := decide_eq_false q0
    clear q0
    have GZ := GA
    by_cases q1 : at_.length = 0
    · have Q1 := Lib.hid q1
      have f1 : ((at_.length : Int) == 0) = true := by rw [q1]; rfl
      clear q1
      have HK := Lib.hid (cloneB_any _ bt _ (HBT.out.below GZ.out) L4.out)
      unfold CloneP at HK
      go_wp2_with fail
      refine HK.out.mono ?_
      rintro e w3 ⟨v3, rfl, h, hb⟩
      obtain ⟨vo3, vc3, rfl, -, -, -, -⟩ := h.form
      replace k0 : w3.cell? ⟨w.heap.size + 1, 0, none⟩ = some (.slice bfo bf.length bfc) := (hb.cell (p := ⟨w.heap.size + 1, 0, none⟩) (by simp <;> omega)).trans (by go_simp); replace k0f : w3.frozen? ⟨w.heap.size + 1, 0, none⟩ = false := (hb.frozen (p := ⟨w.heap.size + 1, 0, none⟩) (by simp <;> omega)).trans (by go_simp); replace k1 : w3.cell? ⟨w.heap.size + 1, 1, none⟩ = some (.slice bto bt.length btc) := (hb.cell (p := ⟨w.heap.size + 1, 1, none⟩) (by simp <;> omega)).trans (by go_simp); replace k1f : w3.frozen? ⟨w.heap.size + 1, 1, none⟩ = false := (hb.frozen (p := ⟨w.heap.size + 1, 1, none⟩) (by simp <;> omega)).trans (by go_simp); replace k2 : w3.cell? ⟨w.heap.size + 1 + 1, 0, none⟩ = some (.slice none 0 0) := (hb.cell (p := ⟨w.heap.size + 1 + 1, 0, none⟩) (by simp <;> omega)).trans (by go_simp); replace k2f : w3.frozen? ⟨w.heap.size + 1 + 1, 0, none⟩ = false := (hb.frozen (p := ⟨w.heap.size + 1 + 1, 0, none⟩) (by simp <;> omega)).trans (by go_simp); replace k3 : w3.cell? ⟨w.heap.size + 1 + 1, 1, none⟩ = some (.slice none 0 0) := (hb.cell (p := ⟨w.heap.size + 1 + 1, 1, none⟩) (by simp <;> omega)).trans (by go_simp); replace k3f : w3.frozen? ⟨w.heap.size + 1 + 1, 1, none⟩ = false := (hb.frozen (p := ⟨w.heap.size + 1 + 1, 1, none⟩) (by simp <;> omega)).trans (by go_simp); replace k4 : w3.cell? ⟨w1.heap.size, 0, none⟩ = some (.slice fo1 af.length fc1) := (hb.cell (p := ⟨w1.heap.size, 0, none⟩) (by simp <;> omega)).trans (by go_simp); replace k4f : w3.frozen? ⟨w1.heap.size, 0, none⟩ = false := (hb.frozen (p := ⟨w1.heap.size, 0, none⟩) (by simp <;> omega)).trans (by go_simp); replace k5 : w3.cell? ⟨w1.heap.size, 1, none⟩ = some (.slice to1 at_.length tc1) := (hb.cell (p := ⟨w1.heap.size, 1, none⟩) (by simp <;> omega)).trans (by go_simp); replace k5f : w3.frozen? ⟨w1.heap.size, 1, none⟩ = false := (hb.frozen (p := ⟨w1.heap.size, 1, none⟩) (by simp <;> omega)).trans (by go_simp)
      have zz : w1.heap.size + 1 ≤ w3.heap.size := by have := hb.size; simp at this; omega
      have x1 : w.heap.size + 1 < w3.heap.size := by omega
      have x2 : w.heap.size + 1 + 1 < w3.heap.size := by omega
      have x3 : w1.heap.size < w3.heap.size := by omega
      have h9 := (H1.out.below hb).set (p := ⟨w1.heap.size, 1, none⟩) (fun b hb => by have := B1.out b hb; simp; omega) (.slice vo3 bt.length vc3)
      replace H1 := Lib.hid h9
      clear h9
      have BV3 : Hid (∀ b, (Value.slice vo3 bt.length vc3).ownBlock = some b → w1.heap.size + 1 ≤ b ∧ b < w3.heap.size) := Lib.hid (fun b hb => by have := h.lt b hb; simp at this; omega)
      have HV3 := Lib.hid ((h.mono (show w.heap.size + 3 ≤ _ by simp; omega)).set (p := ⟨w1.heap.size, 1, none⟩) (fun b hb => by have := (BV3.out b hb).1; simp; omega) (.slice vo3 bt.length vc3))
      replace GZ := Lib.hid ((bel_call GZ.out hb).setCell (p := ⟨w1.heap.size, 1, none⟩) (by simp only; omega) (.slice vo3 bt.length vc3))
      clear h hb HK
      have HSD : Hid (shareD (af, at_) (bf, bt) = (af, bt)) := Lib.hid (by unfold shareD; dsimp only; rw [HCFE.out, if_neg (by have := Q0.out; omega), if_pos (by have := Q1.out; omega)])
      go_wp2_with fail
      rw [HSD.out]
      refine bodyPost_ret (v := .agg #[.slice fo1 af.length fc1, .slice vo3 bt.length vc3]) (by simp [results, Try.results79, go_sem]; go_simp) rfl ⟨_, _, rfl, ?_, ?_, ?_⟩
      · exact ((H1.out.set (fun b hb => by have := (B1.out b hb).1; simp; omega) _).set (fun b hb => by have := (B1.out b hb).1; simp; omega) _).mono (by omega)
      · exact ((HV3.out.set (fun b hb => by have := (BV3.out b hb).1; simp; omega) _).set (fun b hb => by have := (BV3.out b hb).1; simp; omega) _).mono (by omega)
      · exact (GZ.out.setCell (p := ⟨w.heap.size + 1 + 1, 0, none⟩) (by simp only; omega) _).setCell (p := ⟨w.heap.size + 1 + 1, 1, none⟩) (by simp only; omega) _
    · have Q1 := Lib.hid q1
      have f1 : ((at_.length : Int) == 0) = false := beq_eq_false_iff_ne.2 (by omega)
      clear q1
      by_cases q2 : bt.length = 0
      · have Q2 := Lib.hid q2
        have f2 : decide (0 < bt.length) = false := decide_eq_false (by omega)
        clear q2
        have HSD : Hid (shareD (af, at_) (bf, bt) = (af, at_)) := Lib.hid (by unfold shareD; dsimp only; rw [HCFE.out, if_neg (by have := Q0.out; omega), if_neg (by have := Q1.out; omega), if_pos (by have := Q2.out; omega)])
        go_wp2_with fail
        rw [HSD.out]
        refine bodyPost_ret (v := .agg #[.slice fo1 af.length fc1, .slice to1 at_.length tc1]) (by simp [results, Try.results79, go_sem]; go_simp) rfl ⟨_, _, rfl, ?_, ?_, ?_⟩
        · exact (((H1o.out.set (fun b hb => by have := (B1.out b hb).1; simp; omega) _).set (fun b hb => by have := (B1.out b hb).1; simp; omega) _).alloc _).mono (by omega)
        · exact (((H2o.out.set (fun b hb => by have := (B2.out b hb).1; simp; omega) _).set (fun b hb => by have := (B2.out b hb).1; simp; omega) _).alloc _).mono (by omega)
        · exact bel_alloc ((G1.out.setCell (p := ⟨w.heap.size + 1 + 1, 0, none⟩) (by simp only; omega) _).setCell (p := ⟨w.heap.size + 1 + 1, 1, none⟩) (by simp only; omega) _) _
      · skip
        have f2 : decide (0 < bt.length) = true := decide_eq_true (by omega)
        have HCT := Lib.hid (bcompare_any _ _ bt at_ _ (HBT.out.below GZ.out) H2.out.isB)
        generalize hct : cmpB bt at_ = ct at *
        have Q2 := Lib.hid q2; have HCTE := Lib.hid hct
        clear q2 hct
        go_wp2_with fail
        refine HCT.out.mono ?_
        rintro e w9 ⟨rfl, hw⟩
        subst hw
        by_cases q3 : ct < 0
        · have Q3 := Lib.hid q3
          have f3 : decide (ct < 0) = true := decide_eq_true q3
          clear q3
          have HK := Lib.hid (cloneB_any _ bt _ (HBT.out.below GZ.out) L4.out)
          unfold CloneP at HK
          go_wp2_with fail
          refine HK.out.mono ?_
          rintro e w3 ⟨v3, rfl, h, hb⟩
          obtain ⟨vo3, vc3, rfl, -, -, -, -⟩ := h.form
          replace k0 : w3.cell? ⟨w.heap.size + 1, 0, none⟩ = some (.slice bfo bf.length bfc) := (hb.cell (p := ⟨w.heap.size + 1, 0, none⟩) (by simp <;> omega)).trans (by go_simp); replace k0f : w3.frozen? ⟨w.heap.size + 1, 0, none⟩ = false := (hb.frozen (p := ⟨w.heap.size + 1, 0, none⟩) (by simp <;> omega)).trans (by go_simp); replace k1 : w3.cell? ⟨w.heap.size + 1, 1, none⟩ = some (.slice bto bt.length btc) := (hb.cell (p := ⟨w.heap.size + 1, 1, none⟩) (by simp <;> omega)).trans (by go_simp); replace k1f : w3.frozen? ⟨w.heap.size + 1, 1, none⟩ = false := (hb.frozen (p := ⟨w.heap.size + 1, 1, none⟩) (by simp <;> omega)).trans (by go_simp); replace k2 : w3.cell? ⟨w.heap.size + 1 + 1, 0, none⟩ = some (.slice none 0 0) := (hb.cell (p := ⟨w.heap.size + 1 + 1, 0, none⟩) (by simp <;> omega)).trans (by go_simp); replace k2f : w3.frozen? ⟨w.heap.size + 1 + 1, 0, none⟩ = false := (hb.frozen (p := ⟨w.heap.size + 1 + 1, 0, none⟩) (by simp <;> omega)).trans (by go_simp); replace k3 : w3.cell? ⟨w.heap.size + 1 + 1, 1, none⟩ = some (.slice none 0 0) := (hb.cell (p := ⟨w.heap.size + 1 + 1, 1, none⟩) (by simp <;> omega)).trans (by go_simp); replace k3f : w3.frozen? ⟨w.heap.size + 1 + 1, 1, none⟩ = false := (hb.frozen (p := ⟨w.heap.size + 1 + 1, 1, none⟩) (by simp <;> omega)).trans (by go_simp); replace k4 : w3.cell? ⟨w1.heap.size, 0, none⟩ = some (.slice fo1 af.length fc1) := (hb.cell (p := ⟨w1.heap.size, 0, none⟩) (by simp <;> omega)).trans (by go_simp); replace k4f : w3.frozen? ⟨w1.heap.size, 0, none⟩ = false := (hb.frozen (p := ⟨w1.heap.size, 0, none⟩) (by simp <;> omega)).trans (by go_simp); replace k5 : w3.cell? ⟨w1.heap.size, 1, none⟩ = some (.slice to1 at_.length tc1) := (hb.cell (p := ⟨w1.heap.size, 1, none⟩) (by simp <;> omega)).trans (by go_simp); replace k5f : w3.frozen? ⟨w1.heap.size, 1, none⟩ = false := (hb.frozen (p := ⟨w1.heap.size, 1, none⟩) (by simp <;> omega)).trans (by go_simp)
          have zz : w1.heap.size + 1 ≤ w3.heap.size := by have := hb.size; simp at this; omega
          have x1 : w.heap.size + 1 < w3.heap.size := by omega
          have x2 : w.heap.size + 1 + 1 < w3.heap.size := by omega
          have x3 : w1.heap.size < w3.heap.size := by omega
          have h9 := (H1.out.below hb).set (p := ⟨w1.heap.size, 1, none⟩) (fun b hb => by have := B1.out b hb; simp; omega) (.slice vo3 bt.length vc3)
          replace H1 := Lib.hid h9
          clear h9
          have BV3 : Hid (∀ b, (Value.slice vo3 bt.length vc3).ownBlock = some b → w1.heap.size + 1 ≤ b ∧ b < w3.heap.size) := Lib.hid (fun b hb => by have := h.lt b hb; simp at this; omega)
          have HV3 := Lib.hid ((h.mono (show w.heap.size + 3 ≤ _ by simp; omega)).set (p := ⟨w1.heap.size, 1, none⟩) (fun b hb => by have := (BV3.out b hb).1; simp; omega) (.slice vo3 bt.length vc3))
          replace GZ := Lib.hid ((bel_call GZ.out hb).setCell (p := ⟨w1.heap.size, 1, none⟩) (by simp only; omega) (.slice vo3 bt.length vc3))
          clear h hb HK
          have HSD : Hid (shareD (af, at_) (bf, bt) = (af, bt)) := Lib.hid (by unfold shareD; dsimp only; rw [HCFE.out, if_neg (by have := Q0.out; omega), if_neg (by have := Q1.out; omega), if_neg (by have := Q2.out; omega), HCTE.out, if_pos (by have := Q3.out; omega)])
          go_wp2_with fail
          rw [HSD.out]
          refine bodyPost_ret (v := .agg #[.slice fo1 af.length fc1, .slice vo3 bt.length vc3]) (by simp [results, Try.results79, go_sem]; go_simp) rfl ⟨_, _, rfl, ?_, ?_, ?_⟩
          · exact ((H1.out.set (fun b hb => by have := (B1.out b hb).1; simp; omega) _).set (fun b hb => by have := (B1.out b hb).1; simp; omega) _).mono (by omega)
          · exact ((HV3.out.set (fun b hb => by have := (BV3.out b hb).1; simp; omega) _).set (fun b hb => by have := (BV3.out b hb).1; simp; omega) _).mono (by omega)
          · exact (GZ.out.setCell (p := ⟨w.heap.size + 1 + 1, 0, none⟩) (by simp only; omega) _).setCell (p := ⟨w.heap.size + 1 + 1, 1, none⟩) (by simp only; omega) _
        · have Q3 := Lib.hid q3
          have f3 : decide (ct < 0) = false := decide_eq_false q3
          clear q3
          have HSD : Hid (shareD (af, at_) (bf, bt) = (af, at_)) := Lib.hid (by unfold shareD; dsimp only; rw [HCFE.out, if_neg (by have := Q0.out; omega), if_neg (by have := Q1.out; omega), if_neg (by have := Q2.out; omega), HCTE.out, if_neg (by have := Q3.out; omega)])
          go_wp2_with fail
          rw [HSD.out]
          refine bodyPost_ret (v := .agg #[.slice fo1 af.length fc1, .slice to1 at_.length tc1]) (by simp [results, Try.results79, go_sem]; go_simp) rfl ⟨_, _, rfl, ?_, ?_, ?_⟩
          · exact (((H1o.out.set (fun b hb => by have := (B1.out b hb).1; simp; omega) _).set (fun b hb => by have := (B1.out b hb).1; simp; omega) _).alloc _).mono (by omega)
          · exact (((H2o.out.set (fun b hb => by have := (B2.out b hb).1; simp; omega) _).set (fun b hb => by have := (B2.out b hb).1; simp; omega) _).alloc _).mono (by omega)
          · exact bel_alloc ((G1.out.setCell (p := ⟨w.heap.size + 1 + 1, 0, none⟩) (by simp only; omega) _).setCell (p := ⟨w.heap.size + 1 + 1, 1, none⟩) (by simp only; omega) _) _
set_option maxRecDepth 100000 in
set_option maxHeartbeats 4000000 in
theorem meet_any (afv atv bfv btv : Value) (af at_ bf bt : List Int) (w : World) (haf : IsB w afv af) (hat : IsB w atv at_) (hbf : IsB w bfv bf) (hbt : IsB w btv bt)
    (l1 : af.length ≤ 140737488355328) (l2 : at_.length ≤ 140737488355328) (l3 : bf.length ≤ 140737488355328) (l4 : bt.length ≤ 140737488355328) :
    Calls Try.prog 55 #[.agg #[afv, atv], .agg #[bfv, btv]] w (Ret (.bool (meetB (af, at_) (bf, bt))) w) := by
  obtain ⟨afo, afc, rfl, -, -, -⟩ := haf.form
  obtain ⟨ato, atc, rfl, -, -, -⟩ := hat.form
  obtain ⟨bfo, bfc, rfl, -, -, -⟩ := hbf.form
  obtain ⟨bto, btc, rfl, -, -, -⟩ := hbt.form
  have HAF := Lib.hid ((haf.alloc (.cells #[.slice afo af.length afc, .slice ato at_.length atc] 25)).alloc (.cells #[.slice bfo bf.length bfc, .slice bto bt.length btc] 25))
  have HAT := Lib.hid ((hat.alloc (.cells #[.slice afo af.length afc, .slice ato at_.length atc] 25)).alloc (.cells #[.slice bfo bf.length bfc, .slice bto bt.length btc] 25))
  have HBF := Lib.hid ((hbf.alloc (.cells #[.slice afo af.length afc, .slice ato at_.length atc] 25)).alloc (.cells #[.slice bfo bf.length bfc, .slice bto bt.length btc] 25))
  have HBT := Lib.hid ((hbt.alloc (.cells #[.slice afo af.length afc, .slice ato at_.length atc] 25)).alloc (.cells #[.slice bfo bf.length bfc, .slice bto bt.length btc] 25))
  have L1 := Lib.hid l1; have L2 := Lib.hid l2; have L3 := Lib.hid l3; have L4 := Lib.hid l4
  have G0 : Hid (Below w.heap.size w ((w.alloc (.cells #[.slice afo af.length afc, .slice ato at_.length atc] 25)).alloc (.cells #[.slice bfo bf.length bfc, .slice bto bt.length btc] 25))) := Lib.hid (((Below.refl _ w).alloc (Nat.le_refl _) _).alloc (by simp) _)
  have HE1 := Lib.hid (empty_any _ _ af at_ ((w.alloc (.cells #[.slice afo af.length afc, .slice ato at_.length atc] 25)).alloc (.cells #[.slice bfo bf.length bfc, .slice bto bt.length btc] 25)) HAF.out HAT.out)
  have HE : Hid (meetB (af, at_) (bf, bt) = (!emptyB (af, at_) && !emptyB (bf, bt) && !emptyB (shareD (af, at_) (bf, bt)))) := Lib.hid rfl
  clear haf hat hbf hbt l1 l2 l3 l4
  go_enter Try.func55, Try.ntmps55
  go_wp2_with fail
  refine HE1.out.mono ?_
  rintro e w1 ⟨rfl, hb⟩
  replace k0 : w1.cell? ⟨w.heap.size, 0, none⟩ = some (.slice afo af.length afc) := (hb.cell (p := ⟨w.heap.size, 0, none⟩) (by simp <;> omega)).trans (by go_simp); replace k1 : w1.cell? ⟨w.heap.size, 1, none⟩ = some (.slice ato at_.length atc) := (hb.cell (p := ⟨w.heap.size, 1, none⟩) (by simp <;> omega)).trans (by go_simp); replace k2 : w1.cell? ⟨w.heap.size + 1, 0, none⟩ = some (.slice bfo bf.length bfc) := (hb.cell (p := ⟨w.heap.size + 1, 0, none⟩) (by simp <;> omega)).trans (by go_simp); replace k3 : w1.cell? ⟨w.heap.size + 1, 1, none⟩ = some (.slice bto bt.length btc) := (hb.cell (p := ⟨w.heap.size + 1, 1, none⟩) (by simp <;> omega)).trans (by go_simp)
  have z1 : w.heap.size + 2 ≤ w1.heap.size := by have := hb.size; simp at this; omega
  have G1 := Lib.hid (bel_call G0.out hb)
  have HE2 := Lib.hid (empty_any _ _ bf bt w1 (HBF.out.below hb) (HBT.out.below hb))
  have HSH := Lib.hid (fun w2 (h2 : Below w1.heap.size w1 w2) => share_any _ _ _ _ af at_ bf bt w2 ((HAF.out.below hb).below h2) ((HAT.out.below hb).below h2) ((HBF.out.below hb).below h2) ((HBT.out.below hb).below h2) L1.out L2.out L3.out L4.out)
  unfold CopiedP at HSH
  clear hb HE1
  cases q1 : emptyB (af, at_)
  · have f1 := Lib.hid q1
    go_wp2_with fail
    refine HE2.out.mono ?_
    rintro e w2 ⟨rfl, hb⟩
    replace k0 : w2.cell? ⟨w.heap.size, 0, none⟩ = some (.slice afo af.length afc) := (hb.cell (p := ⟨w.heap.size, 0, none⟩) (by simp <;> omega)).trans (by go_simp); replace k1 : w2.cell? ⟨w.heap.size, 1, none⟩ = some (.slice ato at_.length atc) := (hb.cell (p := ⟨w.heap.size, 1, none⟩) (by simp <;> omega)).trans (by go_simp); replace k2 : w2.cell? ⟨w.heap.size + 1, 0, none⟩ = some (.slice bfo bf.length bfc) := (hb.cell (p := ⟨w.heap.size + 1, 0, none⟩) (by simp <;> omega)).trans (by go_simp); replace k3 : w2.cell? ⟨w.heap.size + 1, 1, none⟩ = some (.slice bto bt.length btc) := (hb.cell (p := ⟨w.heap.size + 1, 1, none⟩) (by simp <;> omega)).trans (by go_simp)
    have z2 : w.heap.size + 2 ≤ w2.heap.size := by have := hb.size; omega
    have G2 := Lib.hid (bel_call G1.out hb)
    have HS := Lib.hid (HSH.out w2 hb)
    clear hb HE2
    cases q2 : emptyB (bf, bt)
    · have f2 := Lib.hid q2
      go_wp2_with fail
      refine HS.out.mono ?_
      rintro e w3 ⟨v1, v2, rfl, h1, h2, hb⟩
      have G3 := Lib.hid (bel_call G2.out hb)
      have HE3 := Lib.hid (empty_any _ _ _ _ w3 h1.isB h2.isB)
      obtain ⟨fo1, fc1, rfl, -, -, -, -⟩ := h1.form
      obtain ⟨to1, tc1, rfl, -, -, -, -⟩ := h2.form
      clear hb h1 h2 HS
      have HE' : Hid (meetB (af, at_) (bf, bt) = !emptyB ((shareD (af, at_) (bf, bt)).1, (shareD (af, at_) (bf, bt)).2)) := Lib.hid (by rw [HE.out, f1.out, f2.out]; rfl)
      generalize emptyB ((shareD (af, at_) (bf, bt)).1, (shareD (af, at_) (bf, bt)).2) = E3 at *
      go_wp2_with fail
      refine HE3.out.mono ?_
      rintro e w4 ⟨rfl, hb⟩
      have G4 := Lib.hid (bel_call G3.out hb)
      clear hb
      go_wp2_with fail
      go_ret
      exact ⟨by rw [HE'.out]; rfl, G4.out⟩
    · have HE' : Hid (meetB (af, at_) (bf, bt) = false) := Lib.hid (by rw [HE.out, q2]; simp)
      go_wp2_with fail
      go_ret
      exact ⟨by rw [HE'.out]; rfl, G2.out⟩
  · have HE' : Hid (meetB (af, at_) (bf, bt) = false) := Lib.hid (by rw [HE.out, q1]; simp)
    go_wp2_with fail
    go_ret
    exact ⟨by rw [HE'.out]; rfl, G1.out⟩
end Rm
end Go.Proofs.Ytbeniogffhihlaa
