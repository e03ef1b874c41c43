/- rangemeta: the document's Empty, Right, Table. -/
import Derived.Test.YtbeniogffhihlaaRmRef
set_option linter.unusedVariables false
set_option linter.unusedSimpArgs false
namespace Go.Proofs.Ytbeniogffhihlaa
open Go.RowKit
namespace Rm
set_option maxRecDepth 100000 in
set_option maxHeartbeats 2000000 in
theorem rEmpty_any (fv tv : Value) (f t : List Int) (w : World) (hf : IsB w fv f) (ht : IsB w tv t) : Calls Try.prog 24 #[.agg #[fv, tv]] w (Ret (.bool (emptyB (f, t))) w) := by
  obtain ⟨fo, fc, rfl, -, -, -⟩ := hf.form
  obtain ⟨to, tc, rfl, -, -, -⟩ := ht.form
  have b1 := (hf.alloc (.cells #[.slice fo f.length fc, .slice to t.length tc] 25)).conv Try.underlying23 Try.underlying5 Try.underlying9
  have b2 := (ht.alloc (.cells #[.slice fo f.length fc, .slice to t.length tc] 25)).conv Try.underlying23 Try.underlying5 Try.underlying9
  have s2 := str_ble ht.rng hf.rng
  have HE : Hid (emptyB (f, t) = (decide (0 < t.length) && decide (cmpB t f ≤ 0))) := Lib.hid rfl
  clear hf ht
  cases q1 : (decide (0 < t.length) : Bool)
  · skip
    have HR : Hid (emptyB (f, t) = false) := Lib.hid (by rw [HE.out]; simp only [q1, Bool.true_and, Bool.false_and, Bool.and_true, Bool.and_false, Bool.not_true, Bool.not_false])
    clear HE
    go_enter Try.func24, Try.ntmps24
    go_wp2_with fail
    go_ret
    exact ⟨by rw [HR.out]; rfl, bel_alloc (Below.refl _ w) _⟩
  · skip
    cases q2 : (decide (cmpB t f ≤ 0) : Bool)
    · skip
      rw [q2] at s2
      have HR : Hid (emptyB (f, t) = false) := Lib.hid (by rw [HE.out]; simp only [q1, q2, Bool.true_and, Bool.false_and, Bool.and_true, Bool.and_false, Bool.not_true, Bool.not_false])
      clear HE
      go_enter Try.func24, Try.ntmps24
      go_wp2_with fail
      go_ret
      exact ⟨by rw [HR.out]; rfl, bel_alloc (Below.refl _ w) _⟩
    · skip
      rw [q2] at s2
      have HR : Hid (emptyB (f, t) = true) := Lib.hid (by rw [HE.out]; simp only [q1, q2, Bool.true_and, Bool.false_and, Bool.and_true, Bool.and_false, Bool.not_true, Bool.not_false])
      clear HE
      go_enter Try.func24, Try.ntmps24
      go_wp2_with fail
      go_ret
      exact ⟨by rw [HR.out]; rfl, bel_alloc (Below.refl _ w) _⟩
def countB (n : Int) : Bool := decide (0 ≤ n) && decide (n ≤ 9007199254740991)
set_option maxHeartbeats 1000000 in
theorem rCount_any (n : Int) (w : World) : Calls Try.prog 81 #[.int .i64 n] w (Ret (.bool (countB n)) w) := by
  have HE : Hid (countB n = (decide (0 ≤ n) && decide (n ≤ 9007199254740991))) := Lib.hid rfl
  cases q1 : (decide (0 ≤ n) : Bool)
  · skip
    have HR : Hid (countB n = false) := Lib.hid (by rw [HE.out]; simp only [q1, Bool.true_and, Bool.false_and, Bool.and_true, Bool.and_false, Bool.not_true, Bool.not_false])
    clear HE
    go_enter Try.func81, Try.ntmps81
    go_wp2_with fail
    go_ret
    exact ⟨by rw [HR.out]; rfl, Below.refl _ w⟩
  · skip
    cases q2 : (decide (n ≤ 9007199254740991) : Bool)
    · skip
      have HR : Hid (countB n = false) := Lib.hid (by rw [HE.out]; simp only [q1, q2, Bool.true_and, Bool.false_and, Bool.and_true, Bool.and_false, Bool.not_true, Bool.not_false])
      clear HE
      go_enter Try.func81, Try.ntmps81
      go_wp2_with fail
      go_ret
      exact ⟨by rw [HR.out]; rfl, Below.refl _ w⟩
    · skip
      have HR : Hid (countB n = true) := Lib.hid (by rw [HE.out]; simp only [q1, q2, Bool.true_and, Bool.false_and, Bool.and_true, Bool.and_false, Bool.not_true, Bool.not_false])
      clear HE
      go_enter Try.func81, Try.ntmps81
      go_wp2_with fail
      go_ret
      exact ⟨by rw [HR.out]; rfl, Below.refl _ w⟩
set_option maxRecDepth 100000 in
set_option maxHeartbeats 4000000 in
theorem rRight_any (fv tv : Value) (id gen : Int) (f t : List Int) (w : World) (hf : IsB w fv f) (ht : IsB w tv t) : Calls Try.prog 53 #[.agg #[.int .i64 id, fv, tv, .int .i64 gen]] w (Ret (.bool (rightB (id, f, t, gen))) w) := by
  obtain ⟨fo, fc, rfl, -, -, -⟩ := hf.form
  obtain ⟨to, tc, rfl, -, -, -⟩ := ht.form
  have HF := Lib.hid (hf.alloc (.cells #[.int .i64 id, .slice fo f.length fc, .slice to t.length tc, .int .i64 gen] 39))
  have HT := Lib.hid (ht.alloc (.cells #[.int .i64 id, .slice fo f.length fc, .slice to t.length tc, .int .i64 gen] 39))
  have HC := fun w => Lib.hid (rCount_any gen w)
  have HM := fun w1 (hb : Below (w.alloc (.cells #[.int .i64 id, .slice fo f.length fc, .slice to t.length tc, .int .i64 gen] 39)).heap.size (w.alloc (.cells #[.int .i64 id, .slice fo f.length fc, .slice to t.length tc, .int .i64 gen] 39)) w1) =>
    Lib.hid (rEmpty_any _ _ f t w1 (HF.out.below hb) (HT.out.below hb))
  have HE : Hid (rightB (id, f, t, gen) = (decide (1 ≤ id) && decide (id ≤ 255) && countB gen && decide (1 ≤ gen) && decide ((f.length : Int) ≤ 110) && decide ((t.length : Int) ≤ 110) && !emptyB (f, t))) := Lib.hid (by
    unfold rightB countB
    dsimp only
    generalize emptyB (f, t) = E
    rw [Bool.eq_iff_iff]
    simp only [Bool.and_eq_true, decide_eq_true_eq]
    constructor
    · rintro ⟨⟨⟨⟨⟨⟨h1, h2⟩, h3⟩, h4⟩, h5⟩, h6⟩, h7⟩; exact ⟨⟨⟨⟨⟨⟨h1, h2⟩, by omega, h4⟩, h3⟩, by omega⟩, by omega⟩, h7⟩
    · rintro ⟨⟨⟨⟨⟨⟨h1, h2⟩, h3, h4⟩, h5⟩, h6⟩, h7⟩, h8⟩; exact ⟨⟨⟨⟨⟨⟨h1, h2⟩, h5⟩, h4⟩, by omega⟩, by omega⟩, h8⟩)
  generalize emptyB (f, t) = E at *
  generalize countB gen = C at *
  clear hf ht
  cases q1 : (decide (1 ≤ id) : Bool)
  · skip
    have HR : Hid (rightB (id, f, t, gen) = false) := Lib.hid (by rw [HE.out]; simp only [q1, Bool.true_and, Bool.false_and, Bool.and_true, Bool.and_false, Bool.not_true, Bool.not_false])
    clear HE
    go_enter Try.func53, Try.ntmps53
    go_wp2_with fail
    refine (HC _).out.mono ?_
    rintro e w1 ⟨rfl, hb⟩
    have HM1 := HM w1 hb
    replace k0 : w1.cell? ⟨w.heap.size, 0, none⟩ = some (.int .i64 id) := (hb.cell (p := ⟨w.heap.size, 0, none⟩) (by simp <;> omega)).trans (by go_simp); replace k1 : w1.cell? ⟨w.heap.size, 1, none⟩ = some (.slice fo f.length fc) := (hb.cell (p := ⟨w.heap.size, 1, none⟩) (by simp <;> omega)).trans (by go_simp); replace k2 : w1.cell? ⟨w.heap.size, 2, none⟩ = some (.slice to t.length tc) := (hb.cell (p := ⟨w.heap.size, 2, none⟩) (by simp <;> omega)).trans (by go_simp); replace k3 : w1.cell? ⟨w.heap.size, 3, none⟩ = some (.int .i64 gen) := (hb.cell (p := ⟨w.heap.size, 3, none⟩) (by simp <;> omega)).trans (by go_simp)
    have G1 : Hid (Below w.heap.size w w1) := Lib.hid (bel_call (bel_alloc (Below.refl _ w) _) hb)
    have z1 : w.heap.size < w1.heap.size := by have := hb.size; simp at this; omega
    clear hb
    go_wp2_with fail
    refine HM1.out.mono ?_
    rintro e w2 ⟨rfl, hb⟩
    replace k0 : w2.cell? ⟨w.heap.size, 0, none⟩ = some (.int .i64 id) := (hb.cell (p := ⟨w.heap.size, 0, none⟩) (by simp <;> omega)).trans (by go_simp); replace k1 : w2.cell? ⟨w.heap.size, 1, none⟩ = some (.slice fo f.length fc) := (hb.cell (p := ⟨w.heap.size, 1, none⟩) (by simp <;> omega)).trans (by go_simp); replace k2 : w2.cell? ⟨w.heap.size, 2, none⟩ = some (.slice to t.length tc) := (hb.cell (p := ⟨w.heap.size, 2, none⟩) (by simp <;> omega)).trans (by go_simp); replace k3 : w2.cell? ⟨w.heap.size, 3, none⟩ = some (.int .i64 gen) := (hb.cell (p := ⟨w.heap.size, 3, none⟩) (by simp <;> omega)).trans (by go_simp)
    have G2 := Lib.hid (bel_call G1.out hb)
    clear hb
    go_wp2_with fail
    go_ret
    exact ⟨by rw [HR.out]; rfl, G2.out⟩
  · skip
    cases q2 : (decide (id ≤ 255) : Bool)
    · skip
      have HR : Hid (rightB (id, f, t, gen) = false) := Lib.hid (by rw [HE.out]; simp only [q1, q2, Bool.true_and, Bool.false_and, Bool.and_true, Bool.and_false, Bool.not_true, Bool.not_false])
      clear HE
      go_enter Try.func53, Try.ntmps53
      go_wp2_with fail
      refine (HC _).out.mono ?_
      rintro e w1 ⟨rfl, hb⟩
      have HM1 := HM w1 hb
      replace k0 : w1.cell? ⟨w.heap.size, 0, none⟩ = some (.int .i64 id) := (hb.cell (p := ⟨w.heap.size, 0, none⟩) (by simp <;> omega)).trans (by go_simp); replace k1 : w1.cell? ⟨w.heap.size, 1, none⟩ = some (.slice fo f.length fc) := (hb.cell (p := ⟨w.heap.size, 1, none⟩) (by simp <;> omega)).trans (by go_simp); replace k2 : w1.cell? ⟨w.heap.size, 2, none⟩ = some (.slice to t.length tc) := (hb.cell (p := ⟨w.heap.size, 2, none⟩) (by simp <;> omega)).trans (by go_simp); replace k3 : w1.cell? ⟨w.heap.size, 3, none⟩ = some (.int .i64 gen) := (hb.cell (p := ⟨w.heap.size, 3, none⟩) (by simp <;> omega)).trans (by go_simp)
      have G1 : Hid (Below w.heap.size w w1) := Lib.hid (bel_call (bel_alloc (Below.refl _ w) _) hb)
      have z1 : w.heap.size < w1.heap.size := by have := hb.size; simp at this; omega
      clear hb
      go_wp2_with fail
      refine HM1.out.mono ?_
      rintro e w2 ⟨rfl, hb⟩
      replace k0 : w2.cell? ⟨w.heap.size, 0, none⟩ = some (.int .i64 id) := (hb.cell (p := ⟨w.heap.size, 0, none⟩) (by simp <;> omega)).trans (by go_simp); replace k1 : w2.cell? ⟨w.heap.size, 1, none⟩ = some (.slice fo f.length fc) := (hb.cell (p := ⟨w.heap.size, 1, none⟩) (by simp <;> omega)).trans (by go_simp); replace k2 : w2.cell? ⟨w.heap.size, 2, none⟩ = some (.slice to t.length tc) := (hb.cell (p := ⟨w.heap.size, 2, none⟩) (by simp <;> omega)).trans (by go_simp); replace k3 : w2.cell? ⟨w.heap.size, 3, none⟩ = some (.int .i64 gen) := (hb.cell (p := ⟨w.heap.size, 3, none⟩) (by simp <;> omega)).trans (by go_simp)
      have G2 := Lib.hid (bel_call G1.out hb)
      clear hb
      go_wp2_with fail
      go_ret
      exact ⟨by rw [HR.out]; rfl, G2.out⟩
    · skip
      cases q3 : (C : Bool)
      · skip
        have HR : Hid (rightB (id, f, t, gen) = false) := Lib.hid (by rw [HE.out]; simp only [q1, q2, q3, Bool.true_and, Bool.false_and, Bool.and_true, Bool.and_false, Bool.not_true, Bool.not_false])
        clear HE
        go_enter Try.func53, Try.ntmps53
        go_wp2_with fail
        refine (HC _).out.mono ?_
        rintro e w1 ⟨rfl, hb⟩
        have HM1 := HM w1 hb
        replace k0 : w1.cell? ⟨w.heap.size, 0, none⟩ = some (.int .i64 id) := (hb.cell (p := ⟨w.heap.size, 0, none⟩) (by simp <;> omega)).trans (by go_simp); replace k1 : w1.cell? ⟨w.heap.size, 1, none⟩ = some (.slice fo f.length fc) := (hb.cell (p := ⟨w.heap.size, 1, none⟩) (by simp <;> omega)).trans (by go_simp); replace k2 : w1.cell? ⟨w.heap.size, 2, none⟩ = some (.slice to t.length tc) := (hb.cell (p := ⟨w.heap.size, 2, none⟩) (by simp <;> omega)).trans (by go_simp); replace k3 : w1.cell? ⟨w.heap.size, 3, none⟩ = some (.int .i64 gen) := (hb.cell (p := ⟨w.heap.size, 3, none⟩) (by simp <;> omega)).trans (by go_simp)
        have G1 : Hid (Below w.heap.size w w1) := Lib.hid (bel_call (bel_alloc (Below.refl _ w) _) hb)
        have z1 : w.heap.size < w1.heap.size := by have := hb.size; simp at this; omega
        clear hb
        go_wp2_with fail
        refine HM1.out.mono ?_
        rintro e w2 ⟨rfl, hb⟩
        replace k0 : w2.cell? ⟨w.heap.size, 0, none⟩ = some (.int .i64 id) := (hb.cell (p := ⟨w.heap.size, 0, none⟩) (by simp <;> omega)).trans (by go_simp); replace k1 : w2.cell? ⟨w.heap.size, 1, none⟩ = some (.slice fo f.length fc) := (hb.cell (p := ⟨w.heap.size, 1, none⟩) (by simp <;> omega)).trans (by go_simp); replace k2 : w2.cell? ⟨w.heap.size, 2, none⟩ = some (.slice to t.length tc) := (hb.cell (p := ⟨w.heap.size, 2, none⟩) (by simp <;> omega)).trans (by go_simp); replace k3 : w2.cell? ⟨w.heap.size, 3, none⟩ = some (.int .i64 gen) := (hb.cell (p := ⟨w.heap.size, 3, none⟩) (by simp <;> omega)).trans (by go_simp)
        have G2 := Lib.hid (bel_call G1.out hb)
        clear hb
        go_wp2_with fail
        go_ret
        exact ⟨by rw [HR.out]; rfl, G2.out⟩
      · skip
        cases q4 : (decide (1 ≤ gen) : Bool)
        · skip
          have HR : Hid (rightB (id, f, t, gen) = false) := Lib.hid (by rw [HE.out]; simp only [q1, q2, q3, q4, Bool.true_and, Bool.false_and, Bool.and_true, Bool.and_false, Bool.not_true, Bool.not_false])
          clear HE
          go_enter Try.func53, Try.ntmps53
          go_wp2_with fail
          refine (HC _).out.mono ?_
          rintro e w1 ⟨rfl, hb⟩
          have HM1 := HM w1 hb
          replace k0 : w1.cell? ⟨w.heap.size, 0, none⟩ = some (.int .i64 id) := (hb.cell (p := ⟨w.heap.size, 0, none⟩) (by simp <;> omega)).trans (by go_simp); replace k1 : w1.cell? ⟨w.heap.size, 1, none⟩ = some (.slice fo f.length fc) := (hb.cell (p := ⟨w.heap.size, 1, none⟩) (by simp <;> omega)).trans (by go_simp); replace k2 : w1.cell? ⟨w.heap.size, 2, none⟩ = some (.slice to t.length tc) := (hb.cell (p := ⟨w.heap.size, 2, none⟩) (by simp <;> omega)).trans (by go_simp); replace k3 : w1.cell? ⟨w.heap.size, 3, none⟩ = some (.int .i64 gen) := (hb.cell (p := ⟨w.heap.size, 3, none⟩) (by simp <;> omega)).trans (by go_simp)
          have G1 : Hid (Below w.heap.size w w1) := Lib.hid (bel_call (bel_alloc (Below.refl _ w) _) hb)
          have z1 : w.heap.size < w1.heap.size := by have := hb.size; simp at this; omega
          clear hb
          go_wp2_with fail
          refine HM1.out.mono ?_
          rintro e w2 ⟨rfl, hb⟩
          replace k0 : w2.cell? ⟨w.heap.size, 0, none⟩ = some (.int .i64 id) := (hb.cell (p := ⟨w.heap.size, 0, none⟩) (by simp <;> omega)).trans (by go_simp); replace k1 : w2.cell? ⟨w.heap.size, 1, none⟩ = some (.slice fo f.length fc) := (hb.cell (p := ⟨w.heap.size, 1, none⟩) (by simp <;> omega)).trans (by go_simp); replace k2 : w2.cell? ⟨w.heap.size, 2, none⟩ = some (.slice to t.length tc) := (hb.cell (p := ⟨w.heap.size, 2, none⟩) (by simp <;> omega)).trans (by go_simp); replace k3 : w2.cell? ⟨w.heap.size, 3, none⟩ = some (.int .i64 gen) := (hb.cell (p := ⟨w.heap.size, 3, none⟩) (by simp <;> omega)).trans (by go_simp)
          have G2 := Lib.hid (bel_call G1.out hb)
          clear hb
          go_wp2_with fail
          go_ret
          exact ⟨by rw [HR.out]; rfl, G2.out⟩
        · skip
          cases q5 : (decide ((f.length : Int) ≤ 110) : Bool)
          · skip
            have HR : Hid (rightB (id, f, t, gen) = false) := Lib.hid (by rw [HE.out]; simp only [q1, q2, q3, q4, q5, Bool.true_and, Bool.false_and, Bool.and_true, Bool.and_false, Bool.not_true, Bool.not_false])
            clear HE
            go_enter Try.func53, Try.ntmps53
            go_wp2_with fail
            refine (HC _).out.mono ?_
            rintro e w1 ⟨rfl, hb⟩
            have HM1 := HM w1 hb
            replace k0 : w1.cell? ⟨w.heap.size, 0, none⟩ = some (.int .i64 id) := (hb.cell (p := ⟨w.heap.size, 0, none⟩) (by simp <;> omega)).trans (by go_simp); replace k1 : w1.cell? ⟨w.heap.size, 1, none⟩ = some (.slice fo f.length fc) := (hb.cell (p := ⟨w.heap.size, 1, none⟩) (by simp <;> omega)).trans (by go_simp); replace k2 : w1.cell? ⟨w.heap.size, 2, none⟩ = some (.slice to t.length tc) := (hb.cell (p := ⟨w.heap.size, 2, none⟩) (by simp <;> omega)).trans (by go_simp); replace k3 : w1.cell? ⟨w.heap.size, 3, none⟩ = some (.int .i64 gen) := (hb.cell (p := ⟨w.heap.size, 3, none⟩) (by simp <;> omega)).trans (by go_simp)
            have G1 : Hid (Below w.heap.size w w1) := Lib.hid (bel_call (bel_alloc (Below.refl _ w) _) hb)
            have z1 : w.heap.size < w1.heap.size := by have := hb.size; simp at this; omega
            clear hb
            go_wp2_with fail
            refine HM1.out.mono ?_
            rintro e w2 ⟨rfl, hb⟩
            replace k0 : w2.cell? ⟨w.heap.size, 0, none⟩ = some (.int .i64 id) := (hb.cell (p := ⟨w.heap.size, 0, none⟩) (by simp <;> omega)).trans (by go_simp); replace k1 : w2.cell? ⟨w.heap.size, 1, none⟩ = some (.slice fo f.length fc) := (hb.cell (p := ⟨w.heap.size, 1, none⟩) (by simp <;> omega)).trans (by go_simp); replace k2 : w2.cell? ⟨w.heap.size, 2, none⟩ = some (.slice to t.length tc) := (hb.cell (p := ⟨w.heap.size, 2, none⟩) (by simp <;> omega)).trans (by go_simp); replace k3 : w2.cell? ⟨w.heap.size, 3, none⟩ = some (.int .i64 gen) := (hb.cell (p := ⟨w.heap.size, 3, none⟩) (by simp <;> omega)).trans (by go_simp)
            have G2 := Lib.hid (bel_call G1.out hb)
            clear hb
            go_wp2_with fail
            go_ret
            exact ⟨by rw [HR.out]; rfl, G2.out⟩
          · skip
            cases q6 : (decide ((t.length : Int) ≤ 110) : Bool)
            · skip
              have HR : Hid (rightB (id, f, t, gen) = false) := Lib.hid (by rw [HE.out]; simp only [q1, q2, q3, q4, q5, q6, Bool.true_and, Bool.false_and, Bool.and_true, Bool.and_false, Bool.not_true, Bool.not_false])
              clear HE
              go_enter Try.func53, Try.ntmps53
              go_wp2_with fail
              refine (HC _).out.mono ?_
              rintro e w1 ⟨rfl, hb⟩
              have HM1 := HM w1 hb
              replace k0 : w1.cell? ⟨w.heap.size, 0, none⟩ = some (.int .i64 id) := (hb.cell (p := ⟨w.heap.size, 0, none⟩) (by simp <;> omega)).trans (by go_simp); replace k1 : w1.cell? ⟨w.heap.size, 1, none⟩ = some (.slice fo f.length fc) := (hb.cell (p := ⟨w.heap.size, 1, none⟩) (by simp <;> omega)).trans (by go_simp); replace k2 : w1.cell? ⟨w.heap.size, 2, none⟩ = some (.slice to t.length tc) := (hb.cell (p := ⟨w.heap.size, 2, none⟩) (by simp <;> omega)).trans (by go_simp); replace k3 : w1.cell? ⟨w.heap.size, 3, none⟩ = some (.int .i64 gen) := (hb.cell (p := ⟨w.heap.size, 3, none⟩) (by simp <;> omega)).trans (by go_simp)
              have G1 : Hid (Below w.heap.size w w1) := Lib.hid (bel_call (bel_alloc (Below.refl _ w) _) hb)
              have z1 : w.heap.size < w1.heap.size := by have := hb.size; simp at this; omega
              clear hb
              go_wp2_with fail
              refine HM1.out.mono ?_
              rintro e w2 ⟨rfl, hb⟩
              replace k0 : w2.cell? ⟨w.heap.size, 0, none⟩ = some (.int .i64 id) := (hb.cell (p := ⟨w.heap.size, 0, none⟩) (by simp <;> omega)).trans (by go_simp); replace k1 : w2.cell? ⟨w.heap.size, 1, none⟩ = some (.slice fo f.length fc) := (hb.cell (p := ⟨w.heap.size, 1, none⟩) (by simp <;> omega)).trans (by go_simp); replace k2 : w2.cell? ⟨w.heap.size, 2, none⟩ = some (.slice to t.length tc) := (hb.cell (p := ⟨w.heap.size, 2, none⟩) (by simp <;> omega)).trans (by go_simp); replace k3 : w2.cell? ⟨w.heap.size, 3, none⟩ = some (.int .i64 gen) := (hb.cell (p := ⟨w.heap.size, 3, none⟩) (by simp <;> omega)).trans (by go_simp)
              have G2 := Lib.hid (bel_call G1.out hb)
              clear hb
              go_wp2_with fail
              go_ret
              exact ⟨by rw [HR.out]; rfl, G2.out⟩
            · skip
              cases q7 : (!E : Bool)
              · skip
                have HR : Hid (rightB (id, f, t, gen) = false) := Lib.hid (by rw [HE.out]; simp only [q1, q2, q3, q4, q5, q6, q7, Bool.true_and, Bool.false_and, Bool.and_true, Bool.and_false, Bool.not_true, Bool.not_false])
                clear HE
                go_enter Try.func53, Try.ntmps53
                go_wp2_with fail
                refine (HC _).out.mono ?_
                rintro e w1 ⟨rfl, hb⟩
                have HM1 := HM w1 hb
                replace k0 : w1.cell? ⟨w.heap.size, 0, none⟩ = some (.int .i64 id) := (hb.cell (p := ⟨w.heap.size, 0, none⟩) (by simp <;> omega)).trans (by go_simp); replace k1 : w1.cell? ⟨w.heap.size, 1, none⟩ = some (.slice fo f.length fc) := (hb.cell (p := ⟨w.heap.size, 1, none⟩) (by simp <;> omega)).trans (by go_simp); replace k2 : w1.cell? ⟨w.heap.size, 2, none⟩ = some (.slice to t.length tc) := (hb.cell (p := ⟨w.heap.size, 2, none⟩) (by simp <;> omega)).trans (by go_simp); replace k3 : w1.cell? ⟨w.heap.size, 3, none⟩ = some (.int .i64 gen) := (hb.cell (p := ⟨w.heap.size, 3, none⟩) (by simp <;> omega)).trans (by go_simp)
                have G1 : Hid (Below w.heap.size w w1) := Lib.hid (bel_call (bel_alloc (Below.refl _ w) _) hb)
                have z1 : w.heap.size < w1.heap.size := by have := hb.size; simp at this; omega
                clear hb
                go_wp2_with fail
                refine HM1.out.mono ?_
                rintro e w2 ⟨rfl, hb⟩
                replace k0 : w2.cell? ⟨w.heap.size, 0, none⟩ = some (.int .i64 id) := (hb.cell (p := ⟨w.heap.size, 0, none⟩) (by simp <;> omega)).trans (by go_simp); replace k1 : w2.cell? ⟨w.heap.size, 1, none⟩ = some (.slice fo f.length fc) := (hb.cell (p := ⟨w.heap.size, 1, none⟩) (by simp <;> omega)).trans (by go_simp); replace k2 : w2.cell? ⟨w.heap.size, 2, none⟩ = some (.slice to t.length tc) := (hb.cell (p := ⟨w.heap.size, 2, none⟩) (by simp <;> omega)).trans (by go_simp); replace k3 : w2.cell? ⟨w.heap.size, 3, none⟩ = some (.int .i64 gen) := (hb.cell (p := ⟨w.heap.size, 3, none⟩) (by simp <;> omega)).trans (by go_simp)
                have G2 := Lib.hid (bel_call G1.out hb)
                clear hb
                go_wp2_with fail
                go_ret
                exact ⟨by rw [HR.out]; rfl, G2.out⟩
              · skip
                have HR : Hid (rightB (id, f, t, gen) = true) := Lib.hid (by rw [HE.out]; simp only [q1, q2, q3, q4, q5, q6, q7, Bool.true_and, Bool.false_and, Bool.and_true, Bool.and_false, Bool.not_true, Bool.not_false])
                clear HE
                go_enter Try.func53, Try.ntmps53
                go_wp2_with fail
                refine (HC _).out.mono ?_
                rintro e w1 ⟨rfl, hb⟩
                have HM1 := HM w1 hb
                replace k0 : w1.cell? ⟨w.heap.size, 0, none⟩ = some (.int .i64 id) := (hb.cell (p := ⟨w.heap.size, 0, none⟩) (by simp <;> omega)).trans (by go_simp); replace k1 : w1.cell? ⟨w.heap.size, 1, none⟩ = some (.slice fo f.length fc) := (hb.cell (p := ⟨w.heap.size, 1, none⟩) (by simp <;> omega)).trans (by go_simp); replace k2 : w1.cell? ⟨w.heap.size, 2, none⟩ = some (.slice to t.length tc) := (hb.cell (p := ⟨w.heap.size, 2, none⟩) (by simp <;> omega)).trans (by go_simp); replace k3 : w1.cell? ⟨w.heap.size, 3, none⟩ = some (.int .i64 gen) := (hb.cell (p := ⟨w.heap.size, 3, none⟩) (by simp <;> omega)).trans (by go_simp)
                have G1 : Hid (Below w.heap.size w w1) := Lib.hid (bel_call (bel_alloc (Below.refl _ w) _) hb)
                have z1 : w.heap.size < w1.heap.size := by have := hb.size; simp at this; omega
                clear hb
                go_wp2_with fail
                refine HM1.out.mono ?_
                rintro e w2 ⟨rfl, hb⟩
                replace k0 : w2.cell? ⟨w.heap.size, 0, none⟩ = some (.int .i64 id) := (hb.cell (p := ⟨w.heap.size, 0, none⟩) (by simp <;> omega)).trans (by go_simp); replace k1 : w2.cell? ⟨w.heap.size, 1, none⟩ = some (.slice fo f.length fc) := (hb.cell (p := ⟨w.heap.size, 1, none⟩) (by simp <;> omega)).trans (by go_simp); replace k2 : w2.cell? ⟨w.heap.size, 2, none⟩ = some (.slice to t.length tc) := (hb.cell (p := ⟨w.heap.size, 2, none⟩) (by simp <;> omega)).trans (by go_simp); replace k3 : w2.cell? ⟨w.heap.size, 3, none⟩ = some (.int .i64 gen) := (hb.cell (p := ⟨w.heap.size, 3, none⟩) (by simp <;> omega)).trans (by go_simp)
                have G2 := Lib.hid (bel_call G1.out hb)
                clear hb
                go_wp2_with fail
                go_ret
                exact ⟨by rw [HR.out]; rfl, G2.out⟩
end Rm
end Go.Proofs.Ytbeniogffhihlaa
