/- rangemeta: the document's In, Share, Meet; Cut of a table. -/
import Derived.Test.YtbeniogffhihlaaRmCut
set_option linter.unusedVariables false
set_option linter.unusedSimpArgs false
namespace Go.Proofs.Ytbeniogffhihlaa
open Go.RowKit
namespace Rm
set_option maxRecDepth 100000 in
set_option maxHeartbeats 2000000 in
theorem rIn_any (fv tv kv : Value) (f t k : List Int) (w : World) (hf : IsB w fv f) (ht : IsB w tv t) (hk : IsB w kv k) : Calls Try.prog 23 #[.agg #[fv, tv], kv] w (Ret (.bool (holdsB (f, t) k)) w) := by
  obtain ⟨fo, fc, rfl, -, -, -⟩ := hf.form
  obtain ⟨to, tc, rfl, -, -, -⟩ := ht.form
  obtain ⟨ko, kc, rfl, -, -, -⟩ := hk.form
  have b1 := (hf.alloc (.cells #[.slice fo f.length fc, .slice to t.length tc] 25)).conv Try.underlying23 Try.underlying5 Try.underlying9
  have b2 := (ht.alloc (.cells #[.slice fo f.length fc, .slice to t.length tc] 25)).conv Try.underlying23 Try.underlying5 Try.underlying9
  have b3 := (hk.alloc (.cells #[.slice fo f.length fc, .slice to t.length tc] 25)).conv Try.underlying23 Try.underlying5 Try.underlying9
  have s1 : Op.bytesLess (strOfNums k).toList (strOfNums f).toList = !(decide (0 ≤ cmpB k f)) := by rw [str_blt hk.rng hf.rng, cmpB_nneg, Bool.not_not]
  have s2 : Op.bytesLess (strOfNums k).toList (strOfNums t).toList = decide (cmpB k t < 0) := by rw [str_blt hk.rng ht.rng, cmpB_neg]
  have hm := ht.max
  clear hf ht hk
  by_cases h1 : t.length = 0
  · have f1 : ((t.length : Int) == 0) = true := by rw [h1]; rfl
    have HE : Hid (holdsB (f, t) k = decide (0 ≤ cmpB k f)) := Lib.hid (by unfold holdsB; simp [h1])
    clear h1 s2
    cases q1 : (decide (0 ≤ cmpB k f) : Bool)
    · skip
      rw [q1] at s1
      have HR : Hid (holdsB (f, t) k = false) := Lib.hid (by rw [HE.out]; simp only [q1])
      clear HE
      go_enter Try.func23, Try.ntmps23
      go_wp2_with fail
      go_ret
      exact ⟨by rw [HR.out]; rfl, bel_alloc (Below.refl _ w) _⟩
    · skip
      rw [q1] at s1
      have HR : Hid (holdsB (f, t) k = true) := Lib.hid (by rw [HE.out]; simp only [q1])
      clear HE
      go_enter Try.func23, Try.ntmps23
      go_wp2_with fail
      go_ret
      exact ⟨by rw [HR.out]; rfl, bel_alloc (Below.refl _ w) _⟩
  · have f1 : ((t.length : Int) == 0) = false := beq_eq_false_iff_ne.2 (by omega)
    have HE : Hid (holdsB (f, t) k = (decide (0 ≤ cmpB k f) && decide (cmpB k t < 0))) := Lib.hid (by unfold holdsB; simp [h1])
    clear h1
    cases q1 : (decide (0 ≤ cmpB k f) : Bool)
    · skip
      rw [q1] at s1
      have HR : Hid (holdsB (f, t) k = false) := Lib.hid (by rw [HE.out]; simp only [q1, Bool.false_and])
      clear HE
      go_enter Try.func23, Try.ntmps23
      go_wp2_with fail
      go_ret
      exact ⟨by rw [HR.out]; rfl, bel_alloc (Below.refl _ w) _⟩
    · skip
      rw [q1] at s1
      cases q2 : (decide (cmpB k t < 0) : Bool)
      · skip
        rw [q2] at s2
        have HR : Hid (holdsB (f, t) k = false) := Lib.hid (by rw [HE.out]; simp only [q1, q2, Bool.and_false])
        clear HE
        go_enter Try.func23, Try.ntmps23
        go_wp2_with fail
        go_ret
        exact ⟨by rw [HR.out]; rfl, bel_alloc (Below.refl _ w) _⟩
      · skip
        rw [q2] at s2
        have HR : Hid (holdsB (f, t) k = true) := Lib.hid (by rw [HE.out]; simp only [q1, q2, Bool.and_true])
        clear HE
        go_enter Try.func23, Try.ntmps23
        go_wp2_with fail
        go_ret
        exact ⟨by rw [HR.out]; rfl, bel_alloc (Below.refl _ w) _⟩
def EitherP (X : Value) (d : List Int) (a : Value) (l : List Int) (b : Value) (m : List Int) : Prop := (X = a ∧ d = l) ∨ (X = b ∧ d = m)
theorem EitherP.isB {X a b : Value} {d l m : List Int} {w : World} (h : EitherP X d a l b m) (h1 : IsB w a l) (h2 : IsB w b m) : IsB w X d := by
  rcases h with ⟨rfl, rfl⟩ | ⟨rfl, rfl⟩
  · exact h1
  · exact h2
def RShareP (afv atv bfv btv : Value) (af at_ bf bt : List Int) (d : SpanD) (w : World) (e : Ending) (w' : World) : Prop := ∃ X Y, e = .returned (.agg #[X, Y]) ∧ EitherP X d.1 afv af bfv bf ∧ EitherP Y d.2 atv at_ btv bt ∧ Below w.heap.size w w'
set_option maxRecDepth 100000 in
set_option maxHeartbeats 8000000 in
theorem rShare_any (afv atv bfv btv : Value) (af at_ bf bt : List Int) (w : World) (haf : IsB w afv af) (hat : IsB w atv at_) (hbf : IsB w bfv bf) (hbt : IsB w btv bt) :
    Calls Try.prog 51 #[.agg #[afv, atv], .agg #[bfv, btv]] w (RShareP afv atv bfv btv af at_ bf bt (shareD (af, at_) (bf, bt)) w) := by
  obtain ⟨afo, afc, rfl, -, -, -⟩ := haf.form
  obtain ⟨ato, atc, rfl, -, -, -⟩ := hat.form
  obtain ⟨bfo, bfc, rfl, -, -, -⟩ := hbf.form
  obtain ⟨bto, btc, rfl, -, -, -⟩ := hbt.form
  have HAF := Lib.hid haf; have HAT := Lib.hid hat; have HBF := Lib.hid hbf; have HBT := Lib.hid hbt
  have k0 := fun (C : Array Value) => ((((haf.alloc (.cells #[.slice afo af.length afc, .slice ato at_.length atc] 25)).alloc (.cells #[.slice bfo bf.length bfc, .slice bto bt.length btc] 25)).alloc (.cells #[.slice none 0 0, .slice none 0 0] 25)).alloc (.cells C 25)).conv Try.underlying23 Try.underlying5 Try.underlying9
  have k1 := fun (C : Array Value) => ((((hat.alloc (.cells #[.slice afo af.length afc, .slice ato at_.length atc] 25)).alloc (.cells #[.slice bfo bf.length bfc, .slice bto bt.length btc] 25)).alloc (.cells #[.slice none 0 0, .slice none 0 0] 25)).alloc (.cells C 25)).conv Try.underlying23 Try.underlying5 Try.underlying9
  have k2 := fun (C : Array Value) => ((((hbf.alloc (.cells #[.slice afo af.length afc, .slice ato at_.length atc] 25)).alloc (.cells #[.slice bfo bf.length bfc, .slice bto bt.length btc] 25)).alloc (.cells #[.slice none 0 0, .slice none 0 0] 25)).alloc (.cells C 25)).conv Try.underlying23 Try.underlying5 Try.underlying9
  have k3 := fun (C : Array Value) => ((((hbt.alloc (.cells #[.slice afo af.length afc, .slice ato at_.length atc] 25)).alloc (.cells #[.slice bfo bf.length bfc, .slice bto bt.length btc] 25)).alloc (.cells #[.slice none 0 0, .slice none 0 0] 25)).alloc (.cells C 25)).conv Try.underlying23 Try.underlying5 Try.underlying9
  have m1 := hat.max
  have m2 := hbt.max
  have z0 : Op.bytesLess (strOfNums bf).toList (strOfNums af).toList = lexLt bf af := str_blt hbf.rng haf.rng
  have s1 := str_ble hbf.rng haf.rng
  have s2 : Op.bytesLess (strOfNums bt).toList (strOfNums at_).toList = decide (cmpB bt at_ < 0) := by rw [str_blt hbt.rng hat.rng, cmpB_neg]
  clear haf hat hbf hbt z0

  by_cases q0 : 0 < cmpB bf af
  · have Q0 := Lib.hid q0
    have e0 : decide (cmpB bf af ≤ 0) = false := decide_eq_false (by omega)
    rw [e0] at s1
    clear e0 q0
    by_cases q1 : at_.length = 0
    · have Q1 := Lib.hid q1
      have f1 : ((at_.length : Int) == 0) = true := by rw [q1]; rfl
      clear q1
      have HSD : Hid (shareD (af, at_) (bf, bt) = (bf, bt)) := Lib.hid (by unfold shareD; dsimp only; rw [if_pos (by have := Q0.out; omega), if_pos (by have := Q1.out; omega)])
      go_enter Try.func51, Try.ntmps51
      go_wp2_with (fail)
      rw [HSD.out]
      refine bodyPost_ret (v := .agg #[.slice bfo bf.length bfc, .slice bto bt.length btc]) (by simp [results, Try.results51, go_sem]) rfl ⟨_, _, rfl, .inr ⟨rfl, rfl⟩, .inr ⟨rfl, rfl⟩, ?_⟩
      exact (by repeat' (first | (with_reducible exact Below.refl _ _) | (with_reducible assumption) | (with_reducible refine Below.drew ?_) | (with_reducible refine below_drewN ?_ _) | (with_reducible refine bel_alloc ?_ _) | (with_reducible refine Below.setCell ?_ ?_ _) | (with_reducible refine bel_call ?_ (by assumption)) | (simp <;> omega)))
    · have Q1 := Lib.hid q1
      have f1 : ((at_.length : Int) == 0) = false := beq_eq_false_iff_ne.2 (by omega)
      clear q1
      by_cases q2 : bt.length = 0
      · have Q2 := Lib.hid q2
        have f2 : decide (0 < bt.length) = false := decide_eq_false (by omega)
        clear q2
        have HSD : Hid (shareD (af, at_) (bf, bt) = (bf, at_)) := Lib.hid (by unfold shareD; dsimp only; rw [if_pos (by have := Q0.out; omega), if_neg (by have := Q1.out; omega), if_pos (by have := Q2.out; omega)])
        go_enter Try.func51, Try.ntmps51
        go_wp2_with (fail)
        rw [HSD.out]
        refine bodyPost_ret (v := .agg #[.slice bfo bf.length bfc, .slice ato at_.length atc]) (by simp [results, Try.results51, go_sem]) rfl ⟨_, _, rfl, .inr ⟨rfl, rfl⟩, .inl ⟨rfl, rfl⟩, ?_⟩
        exact (by repeat' (first | (with_reducible exact Below.refl _ _) | (with_reducible assumption) | (with_reducible refine Below.drew ?_) | (with_reducible refine below_drewN ?_ _) | (with_reducible refine bel_alloc ?_ _) | (with_reducible refine Below.setCell ?_ ?_ _) | (with_reducible refine bel_call ?_ (by assumption)) | (simp <;> omega)))
      · have Q2 := Lib.hid q2
        have f2 : decide (0 < bt.length) = true := decide_eq_true (by omega)
        clear q2
        by_cases q3 : cmpB bt at_ < 0
        · have Q3 := Lib.hid q3
          rw [decide_eq_true q3] at s2
          clear q3
          have HSD : Hid (shareD (af, at_) (bf, bt) = (bf, bt)) := Lib.hid (by unfold shareD; dsimp only; rw [if_pos (by have := Q0.out; omega), if_neg (by have := Q1.out; omega), if_neg (by have := Q2.out; omega), if_pos (by have := Q3.out; omega)])
          go_enter Try.func51, Try.ntmps51
          go_wp2_with (fail)
          rw [HSD.out]
          refine bodyPost_ret (v := .agg #[.slice bfo bf.length bfc, .slice bto bt.length btc]) (by simp [results, Try.results51, go_sem]) rfl ⟨_, _, rfl, .inr ⟨rfl, rfl⟩, .inr ⟨rfl, rfl⟩, ?_⟩
          exact (by repeat' (first | (with_reducible exact Below.refl _ _) | (with_reducible assumption) | (with_reducible refine Below.drew ?_) | (with_reducible refine below_drewN ?_ _) | (with_reducible refine bel_alloc ?_ _) | (with_reducible refine Below.setCell ?_ ?_ _) | (with_reducible refine bel_call ?_ (by assumption)) | (simp <;> omega)))
        · have Q3 := Lib.hid q3
          rw [decide_eq_false q3] at s2
          clear q3
          have HSD : Hid (shareD (af, at_) (bf, bt) = (bf, at_)) := Lib.hid (by unfold shareD; dsimp only; rw [if_pos (by have := Q0.out; omega), if_neg (by have := Q1.out; omega), if_neg (by have := Q2.out; omega), if_neg (by have := Q3.out; omega)])
          go_enter Try.func51, Try.ntmps51
          go_wp2_with (fail)
          rw [HSD.out]
          refine bodyPost_ret (v := .agg #[.slice bfo bf.length bfc, .slice ato at_.length atc]) (by simp [results, Try.results51, go_sem]) rfl ⟨_, _, rfl, .inr ⟨rfl, rfl⟩, .inl ⟨rfl, rfl⟩, ?_⟩
          exact (by repeat' (first | (with_reducible exact Below.refl _ _) | (with_reducible assumption) | (with_reducible refine Below.drew ?_) | (with_reducible refine below_drewN ?_ _) | (with_reducible refine bel_alloc ?_ _) | (with_reducible refine Below.setCell ?_ ?_ _) | (with_reducible refine bel_call ?_ (by assumption)) | (simp <;> omega)))
  · have Q0 := Lib.hid q0
    have e0 : decide (cmpB bf af ≤ 0) = true := decide_eq_true (by omega)
    rw [e0] at s1
    clear e0 q0
    by_cases q1 : at_.length = 0
    · have Q1 := Lib.hid q1
      have f1 : ((at_.length : Int) == 0) = true := by rw [q1]; rfl
      clear q1
      have HSD : Hid (shareD (af, at_) (bf, bt) = (af, bt)) := Lib.hid (by unfold shareD; dsimp only; rw [if_neg (by have := Q0.out; omega), if_pos (by have := Q1.out; omega)])
      go_enter Try.func51, Try.ntmps51
      go_wp2_with (fail)
      rw [HSD.out]
      refine bodyPost_ret (v := .agg #[.slice afo af.length afc, .slice bto bt.length btc]) (by simp [results, Try.results51, go_sem]) rfl ⟨_, _, rfl, .inl ⟨rfl, rfl⟩, .inr ⟨rfl, rfl⟩, ?_⟩
      exact (by repeat' (first | (with_reducible exact Below.refl _ _) | (with_reducible assumption) | (with_reducible refine Below.drew ?_) | (with_reducible refine below_drewN ?_ _) | (with_reducible refine bel_alloc ?_ _) | (with_reducible refine Below.setCell ?_ ?_ _) | (with_reducible refine bel_call ?_ (by assumption)) | (simp <;> omega)))
    · have Q1 := Lib.hid q1
      have f1 : ((at_.length : Int) == 0) = false := beq_eq_false_iff_ne.2 (by omega)
      clear q1
      by_cases q2 : bt.length = 0
      · have Q2 := Lib.hid q2
        have f2 : decide (0 < bt.length) = false := decide_eq_false (by omega)
        clear q2
        have HSD : Hid (shareD (af, at_) (bf, bt) = (af, at_)) := Lib.hid (by unfold shareD; dsimp only; rw [if_neg (by have := Q0.out; omega), if_neg (by have := Q1.out; omega), if_pos (by have := Q2.out; omega)])
        go_enter Try.func51, Try.ntmps51
        go_wp2_with (fail)
        rw [HSD.out]
        refine bodyPost_ret (v := .agg #[.slice afo af.length afc, .slice ato at_.length atc]) (by simp [results, Try.results51, go_sem]) rfl ⟨_, _, rfl, .inl ⟨rfl, rfl⟩, .inl ⟨rfl, rfl⟩, ?_⟩
        exact (by repeat' (first | (with_reducible exact Below.refl _ _) | (with_reducible assumption) | (with_reducible refine Below.drew ?_) | (with_reducible refine below_drewN ?_ _) | (with_reducible refine bel_alloc ?_ _) | (with_reducible refine Below.setCell ?_ ?_ _) | (with_reducible refine bel_call ?_ (by assumption)) | (simp <;> omega)))
      · have Q2 := Lib.hid q2
        have f2 : decide (0 < bt.length) = true := decide_eq_true (by omega)
        clear q2
        by_cases q3 : cmpB bt at_ < 0
        · have Q3 := Lib.hid q3
          rw [decide_eq_true q3] at s2
          clear q3
          have HSD : Hid (shareD (af, at_) (bf, bt) = (af, bt)) := Lib.hid (by unfold shareD; dsimp only; rw [if_neg (by have := Q0.out; omega), if_neg (by have := Q1.out; omega), if_neg (by have := Q2.out; omega), if_pos (by have := Q3.out; omega)])
          go_enter Try.func51, Try.ntmps51
          go_wp2_with (fail)
          rw [HSD.out]
          refine bodyPost_ret (v := .agg #[.slice afo af.length afc, .slice bto bt.length btc]) (by simp [results, Try.results51, go_sem]) rfl ⟨_, _, rfl, .inl ⟨rfl, rfl⟩, .inr ⟨rfl, rfl⟩, ?_⟩
          exact (by repeat' (first | (with_reducible exact Below.refl _ _) | (with_reducible assumption) | (with_reducible refine Below.drew ?_) | (with_reducible refine below_drewN ?_ _) | (with_reducible refine bel_alloc ?_ _) | (with_reducible refine Below.setCell ?_ ?_ _) | (with_reducible refine bel_call ?_ (by assumption)) | (simp <;> omega)))
        · have Q3 := Lib.hid q3
          rw [decide_eq_false q3] at s2
          clear q3
          have HSD : Hid (shareD (af, at_) (bf, bt) = (af, at_)) := Lib.hid (by unfold shareD; dsimp only; rw [if_neg (by have := Q0.out; omega), if_neg (by have := Q1.out; omega), if_neg (by have := Q2.out; omega), if_neg (by have := Q3.out; omega)])
          go_enter Try.func51, Try.ntmps51
          go_wp2_with (fail)
          rw [HSD.out]
          refine bodyPost_ret (v := .agg #[.slice afo af.length afc, .slice ato at_.length atc]) (by simp [results, Try.results51, go_sem]) rfl ⟨_, _, rfl, .inl ⟨rfl, rfl⟩, .inl ⟨rfl, rfl⟩, ?_⟩
          exact (by repeat' (first | (with_reducible exact Below.refl _ _) | (with_reducible assumption) | (with_reducible refine Below.drew ?_) | (with_reducible refine below_drewN ?_ _) | (with_reducible refine bel_alloc ?_ _) | (with_reducible refine Below.setCell ?_ ?_ _) | (with_reducible refine bel_call ?_ (by assumption)) | (simp <;> omega)))
set_option maxRecDepth 100000 in
set_option maxHeartbeats 4000000 in
theorem rMeet_any (afv atv bfv btv : Value) (af at_ bf bt : List Int) (w : World) (haf : IsB w afv af) (hat : IsB w atv at_) (hbf : IsB w bfv bf) (hbt : IsB w btv bt) :
    Calls Try.prog 31 #[.agg #[afv, atv], .agg #[bfv, btv]] w (Ret (.bool (meetB (af, at_) (bf, bt))) w) := by
  obtain ⟨afo, afc, rfl, -, -, -⟩ := haf.form
  obtain ⟨ato, atc, rfl, -, -, -⟩ := hat.form
  obtain ⟨bfo, bfc, rfl, -, -, -⟩ := hbf.form
  obtain ⟨bto, btc, rfl, -, -, -⟩ := hbt.form
  have HAF := Lib.hid ((haf.alloc (.cells #[.slice afo af.length afc, .slice ato at_.length atc] 25)).alloc (.cells #[.slice bfo bf.length bfc, .slice bto bt.length btc] 25))
  have HAT := Lib.hid ((hat.alloc (.cells #[.slice afo af.length afc, .slice ato at_.length atc] 25)).alloc (.cells #[.slice bfo bf.length bfc, .slice bto bt.length btc] 25))
  have HBF := Lib.hid ((hbf.alloc (.cells #[.slice afo af.length afc, .slice ato at_.length atc] 25)).alloc (.cells #[.slice bfo bf.length bfc, .slice bto bt.length btc] 25))
  have HBT := Lib.hid ((hbt.alloc (.cells #[.slice afo af.length afc, .slice ato at_.length atc] 25)).alloc (.cells #[.slice bfo bf.length bfc, .slice bto bt.length btc] 25))
  have G0 : Hid (Below w.heap.size w ((w.alloc (.cells #[.slice afo af.length afc, .slice ato at_.length atc] 25)).alloc (.cells #[.slice bfo bf.length bfc, .slice bto bt.length btc] 25))) := Lib.hid (((Below.refl _ w).alloc (Nat.le_refl _) _).alloc (by simp) _)
  have HE1 := Lib.hid (rEmpty_any _ _ af at_ ((w.alloc (.cells #[.slice afo af.length afc, .slice ato at_.length atc] 25)).alloc (.cells #[.slice bfo bf.length bfc, .slice bto bt.length btc] 25)) HAF.out HAT.out)
  have HE : Hid (meetB (af, at_) (bf, bt) = (!emptyB (af, at_) && !emptyB (bf, bt) && !emptyB (shareD (af, at_) (bf, bt)))) := Lib.hid rfl
  clear haf hat hbf hbt
  go_enter Try.func31, Try.ntmps31
  go_wp2_with fail
  refine HE1.out.mono ?_
  rintro e w1 ⟨rfl, hb⟩
  replace k0 : w1.cell? ⟨w.heap.size, 0, none⟩ = some (.slice afo af.length afc) := (hb.cell (p := ⟨w.heap.size, 0, none⟩) (by simp <;> omega)).trans (by go_simp); replace k1 : w1.cell? ⟨w.heap.size, 1, none⟩ = some (.slice ato at_.length atc) := (hb.cell (p := ⟨w.heap.size, 1, none⟩) (by simp <;> omega)).trans (by go_simp); replace k2 : w1.cell? ⟨w.heap.size + 1, 0, none⟩ = some (.slice bfo bf.length bfc) := (hb.cell (p := ⟨w.heap.size + 1, 0, none⟩) (by simp <;> omega)).trans (by go_simp); replace k3 : w1.cell? ⟨w.heap.size + 1, 1, none⟩ = some (.slice bto bt.length btc) := (hb.cell (p := ⟨w.heap.size + 1, 1, none⟩) (by simp <;> omega)).trans (by go_simp)
  have z1 : w.heap.size + 2 ≤ w1.heap.size := by have := hb.size; simp at this; omega
  have y0 : w.heap.size < w1.heap.size := by omega
  have y1 : w.heap.size + 1 < w1.heap.size := by omega
  have G1 := Lib.hid (bel_call G0.out hb)
  have HE2 := Lib.hid (rEmpty_any _ _ bf bt w1 (HBF.out.below hb) (HBT.out.below hb))
  have HSH := Lib.hid (fun w2 (h2 : Below w1.heap.size w1 w2) => rShare_any _ _ _ _ af at_ bf bt w2 ((HAF.out.below hb).below h2) ((HAT.out.below hb).below h2) ((HBF.out.below hb).below h2) ((HBT.out.below hb).below h2))
  unfold RShareP at HSH
  have B1 := Lib.hid (HAF.out.below hb); have B2 := Lib.hid (HAT.out.below hb); have B3 := Lib.hid (HBF.out.below hb); have B4 := Lib.hid (HBT.out.below hb)
  clear hb HE1
  go_wp2_with fail
  refine HE2.out.mono ?_
  rintro e w2 ⟨rfl, hb⟩
  replace k0 : w2.cell? ⟨w.heap.size, 0, none⟩ = some (.slice afo af.length afc) := (hb.cell (p := ⟨w.heap.size, 0, none⟩) (by simp <;> omega)).trans (by go_simp); replace k1 : w2.cell? ⟨w.heap.size, 1, none⟩ = some (.slice ato at_.length atc) := (hb.cell (p := ⟨w.heap.size, 1, none⟩) (by simp <;> omega)).trans (by go_simp); replace k2 : w2.cell? ⟨w.heap.size + 1, 0, none⟩ = some (.slice bfo bf.length bfc) := (hb.cell (p := ⟨w.heap.size + 1, 0, none⟩) (by simp <;> omega)).trans (by go_simp); replace k3 : w2.cell? ⟨w.heap.size + 1, 1, none⟩ = some (.slice bto bt.length btc) := (hb.cell (p := ⟨w.heap.size + 1, 1, none⟩) (by simp <;> omega)).trans (by go_simp)
  have z2 : w.heap.size + 2 ≤ w2.heap.size := by have := hb.size; omega
  have G2 := Lib.hid (bel_call G1.out hb)
  have HS := Lib.hid (HSH.out w2 hb)
  have A1 := Lib.hid (B1.out.below hb); have A2 := Lib.hid (B2.out.below hb); have A3 := Lib.hid (B3.out.below hb); have A4 := Lib.hid (B4.out.below hb)
  clear hb HE2 y0 y1
  have y0 : w.heap.size < w2.heap.size := by omega
  have y1 : w.heap.size + 1 < w2.heap.size := by omega
  go_wp2_with fail
  refine HS.out.mono ?_
  rintro e w3 ⟨X, Y, rfl, h1, h2, hb⟩
  replace h1 := h1.isB A1.out A3.out
  replace h2 := h2.isB A2.out A4.out
  have G3 := Lib.hid (bel_call G2.out hb)
  obtain ⟨fo1, fc1, rfl, -, -, -⟩ := h1.form
  obtain ⟨to1, tc1, rfl, -, -, -⟩ := h2.form
  have HE3 := Lib.hid (rEmpty_any _ _ _ _ (w3.alloc (.cells #[.slice fo1 (shareD (af, at_) (bf, bt)).1.length fc1, .slice to1 (shareD (af, at_) (bf, bt)).2.length tc1] 25)) ((h1.below hb).alloc _) ((h2.below hb).alloc _))
  clear hb h1 h2 HS
  have HE' : Hid (meetB (af, at_) (bf, bt) = (!emptyB (af, at_) && !emptyB (bf, bt) && !emptyB ((shareD (af, at_) (bf, bt)).1, (shareD (af, at_) (bf, bt)).2))) := Lib.hid (by rw [HE.out])
  clear HE
  generalize emptyB ((shareD (af, at_) (bf, bt)).1, (shareD (af, at_) (bf, bt)).2) = E3 at *
  generalize emptyB (af, at_) = E1 at *
  generalize emptyB (bf, bt) = E2 at *
  go_wp2_with fail
  refine HE3.out.mono ?_
  rintro e w4 ⟨rfl, hb⟩
  have G4 := Lib.hid (bel_call (bel_alloc G3.out _) hb)
  clear hb
  cases E1 <;> cases E2 <;> (go_wp2_with fail; go_ret; exact ⟨by rw [HE'.out]; rfl, G4.out⟩)
set_option maxRecDepth 100000 in
set_option maxHeartbeats 2000000 in
theorem tCut_any (tb : Nat) (v pfv ptv : Value) (l : List RangeD) (pf pt : List Int) (w : World) (hc : w.cell? ⟨tb, 0, none⟩ = some v) (h : IsRgs w v l) (hpf : IsB w pfv pf) (hpt : IsB w ptv pt) (hl : l.length ≤ 1000)
    (hs : ∀ x ∈ l, x.2.1.length ≤ 140737488355328 ∧ x.2.2.1.length ≤ 140737488355328) (l1 : pf.length ≤ 140737488355328) (l2 : pt.length ≤ 140737488355328) :
    Calls Try.prog 19 #[.pointer (some ⟨tb, 0, none⟩), .agg #[pfv, ptv]] w (PtsP (cutL l (pf, pt)) w) := by
  obtain ⟨ao, cap, rfl, -, -, -⟩ := h.form
  obtain ⟨pfo, pfc, rfl, -, -, -⟩ := hpf.form
  obtain ⟨pto, ptc, rfl, -, -, -⟩ := hpt.form
  have zt : tb < w.heap.size := World.block_lt_of_cell? w _ hc
  have b0 : Below w.heap.size w (w.alloc (.cells #[.slice pfo pf.length pfc, .slice pto pt.length ptc] 25)).drew := ((Below.refl _ w).alloc (Nat.le_refl _) _).drew
  have HC := Lib.hid (cut_any _ _ _ l pf pt _ (h.below rgR_stays b0) (hpf.below b0) (hpt.below b0) hl hs l1 l2)
  have G0 := Lib.hid b0
  unfold PtsP at HC
  clear h hpf hpt hs l1 l2 b0
  go_enter Try.func19, Try.ntmps19
  go_wp2_with fail
  refine wp_region_T (fun w' => Below (w.alloc (.cells #[.slice pfo pf.length pfc, .slice pto pt.length ptc] 25)).heap.size (w.alloc (.cells #[.slice pfo pf.length pfc, .slice pto pt.length ptc] 25)) w') [5, 6] (by kernel_rfl) ?_ (fun hS9 => ?_)
  · exact (Below.refl _ _).drew
  refine wpAnyT_take (i := 0) rfl (by kernel_rfl) (by kernel_rfl) (by kernel_rfl) (by kernel_rfl) (by kernel_rfl) (by rfl) hS9 ?_; apply Exists.intro; refine ⟨fun _ _ _ h => h, fun w9 hT9 => ?_, ?_⟩
  · (try dsimp only at hT9); go_simp; first | done | with_reducible rfl | rfl
  simp only [Act.put, List.setIfInBounds_toArray, List.set_cons_succ, List.set_cons_zero]
  refine wpAnyT_take (i := 1) rfl (by kernel_rfl) (by kernel_rfl) (by kernel_rfl) (by kernel_rfl) (by kernel_rfl) (by rfl) hS9 ?_; apply Exists.intro; refine ⟨fun _ _ _ h => h, fun w9 hT9 => ?_, ?_⟩
  · (try dsimp only at hT9); go_simp; first | done | with_reducible rfl | rfl
  simp only [Act.put, List.setIfInBounds_toArray, List.set_cons_succ, List.set_cons_zero]
  refine wpAnyT_take (i := 2) rfl (by kernel_rfl) (by kernel_rfl) (by kernel_rfl) (by kernel_rfl) (by kernel_rfl) (by rfl) hS9 ?_; apply Exists.intro; refine ⟨fun _ _ _ h => h, fun w9 hT9 => ?_, ?_⟩
  · (try dsimp only at hT9); go_simp; first | done | with_reducible rfl | rfl
  simp only [Act.put, List.setIfInBounds_toArray, List.set_cons_succ, List.set_cons_zero]
  refine wpAnyT_take (i := 3) rfl (by kernel_rfl) (by kernel_rfl) (by kernel_rfl) (by kernel_rfl) (by kernel_rfl) (by rfl) hS9 ?_; apply Exists.intro; refine ⟨fun _ _ _ h => h, fun w9 hT9 => ?_, ?_⟩
  · (try dsimp only at hT9); obtain ⟨hcc9, hff9⟩ := bcell hT9; go_simp; first | done | with_reducible rfl | rfl
  simp only [Act.put, List.setIfInBounds_toArray, List.set_cons_succ, List.set_cons_zero]
  refine wpAnyT_take (i := 4) rfl (by kernel_rfl) (by kernel_rfl) (by kernel_rfl) (by kernel_rfl) (by kernel_rfl) (by rfl) hS9 ?_; apply Exists.intro; refine ⟨fun _ _ _ h => h, fun w9 hT9 => ?_, ?_⟩
  · (try dsimp only at hT9); obtain ⟨hcc9, hff9⟩ := bcell hT9; go_simp; first | done | with_reducible rfl | rfl
  simp only [Act.put, List.setIfInBounds_toArray, List.set_cons_succ, List.set_cons_zero]
  refine wpAnyT_free (i := 5) rfl (by kernel_rfl) (by kernel_rfl) (fun K9 hK9 => ?_)
  go_simp; (with_reducible refine Calls.mono HC.out ?_); rintro e w5 ⟨v5, rfl, h5, hb⟩; have HB5 := Lib.hid hb; have H5 := Lib.hid h5; obtain ⟨o5, c5, rfl, -, -, -⟩ := h5.form; clear h5
  refine hK9.out _ _ ?_; clear hK9 K9
  (try simp only [Act.put, List.setIfInBounds_toArray, List.set_cons_succ, List.set_cons_zero])
  refine wpAnyT_free (i := 6) rfl (by kernel_rfl) (by kernel_rfl) (fun K9 hK9 => ?_)
  go_simp
  refine hK9.out _ _ ?_; clear hK9 K9
  (try simp only [Act.put, List.setIfInBounds_toArray, List.set_cons_succ, List.set_cons_zero])
  refine wpAnyT_done (by kernel_rfl) ?_ _; have HS9 := Lib.hid hS9; clear hS9
  go_wp2_with fail
  go_ret
  exact ⟨_, rfl, H5.out, bel_call G0.out HB5.out⟩
end Rm
end Go.Proofs.Ytbeniogffhihlaa
