/- rangemeta: the document's Table. -/
import Derived.Test.YtbeniogffhihlaaRmRef2
set_option linter.unusedVariables false
set_option linter.unusedSimpArgs false
namespace Go.Proofs.Ytbeniogffhihlaa
open Go.RowKit
namespace Rm
def docAt (l : List RangeD) (k : Nat) (x : RangeD) : Prop := rightB x = true ∧ (∀ j y, k = j + 1 → l[j]? = some y → y.2.2.1.length ≠ 0 ∧ y.2.2.1 = x.2.1) ∧ (∀ m y, m < k → l[m]? = some y → y.1 ≠ x.1)
theorem prevTo_succ {l : List RangeD} {j : Nat} {y : RangeD} (h : l[j]? = some y) : prevTo l (j + 1) = y.2.2.1 := by
  show (l.getD j zeroR).2.2.1 = _
  rw [List.getD_eq_getElem?_getD, h]; rfl
theorem tableP_at {l : List RangeD} (h : tableP l) {k : Nat} {x : RangeD} (hx : l[k]? = some x) : rightB x = true ∧ x.2.1 = prevTo l k ∧ (x.2.2.1.length = 0 ↔ k + 1 = l.length) := by
  have h1 := h.2.2.1 k x hx
  unfold okAt at h1
  rw [Bool.and_eq_true, Bool.and_eq_true, decide_eq_true_eq, beq_iff_eq, decide_eq_decide] at h1
  exact ⟨h1.1.1, h1.1.2, h1.2⟩
theorem tableP_docAt {l : List RangeD} (h : tableP l) {k : Nat} {x : RangeD} (hx : l[k]? = some x) : docAt l k x := by
  refine ⟨(tableP_at h hx).1, fun j y hj hy => ?_, fun m y hm hy he => ?_⟩
  · subst hj
    have hk := (List.getElem?_eq_some_iff.1 hx).1
    refine ⟨fun h0 => ?_, ?_⟩
    · have := (tableP_at h hy).2.2.1 h0; omega
    · rw [(tableP_at h hx).2.1, prevTo_succ hy]
  · have hn := List.nodup_iff_pairwise_ne.1 h.2.2.2
    rw [List.pairwise_iff_getElem] at hn
    have hk := List.getElem?_eq_some_iff.1 hx
    have hmm := List.getElem?_eq_some_iff.1 hy
    obtain ⟨hk1, hk2⟩ := hk
    obtain ⟨hm1, hm2⟩ := hmm
    refine hn m k (by simpa using hm1) (by simpa using hk1) hm ?_
    rw [List.getElem_map, List.getElem_map, hk2, hm2]
    exact he
theorem tableP_intro {l : List RangeD} (h0 : 0 < l.length) (h32 : l.length ≤ 32) (hf : ∀ x, l[0]? = some x → x.2.1.length = 0) (hl : ∀ x, l[l.length - 1]? = some x → x.2.2.1.length = 0) (h : ∀ k x, l[k]? = some x → docAt l k x) : tableP l := by
  refine ⟨h0, h32, fun k x hx => ?_, ?_⟩
  · have hk := (List.getElem?_eq_some_iff.1 hx).1
    have hd := h k x hx
    unfold okAt
    rw [Bool.and_eq_true, Bool.and_eq_true, decide_eq_true_eq, beq_iff_eq, decide_eq_decide]
    refine ⟨⟨hd.1, ?_⟩, ?_⟩
    · cases k with
      | zero => exact List.eq_nil_of_length_eq_zero (hf x hx)
      | succ j =>
        obtain ⟨y, hy⟩ : ∃ y, l[j]? = some y := ⟨_, List.getElem?_eq_getElem (by omega)⟩
        rw [prevTo_succ hy]; exact (hd.2.1 j y rfl hy).2.symm
    · constructor
      · intro hz
        rcases Nat.lt_or_ge (k + 1) l.length with hlt | hge
        · obtain ⟨y, hy⟩ : ∃ y, l[k + 1]? = some y := ⟨_, List.getElem?_eq_getElem hlt⟩
          exact absurd hz ((h (k + 1) y hy).2.1 k x rfl hx).1
        · omega
      · intro he
        exact hl x (by rw [← he]; exact hx)
  · rw [List.nodup_iff_pairwise_ne, List.pairwise_iff_getElem]
    intro i j hi hj hij
    rw [List.getElem_map, List.getElem_map]
    exact (h j _ (List.getElem?_eq_getElem (by simpa using hj))).2.2 i _ hij (List.getElem?_eq_getElem (by simpa using hi))
set_option maxRecDepth 100000 in
set_option maxHeartbeats 8000000 in
theorem rTable_any (v : Value) (l : List RangeD) (w : World) (h : IsRgs w v l) : Calls Try.prog 26 #[v] w (IsTableP l w) := by
  have hm := h.max
  obtain ⟨ao, cap, rfl, -, -, -⟩ := h.form
  have HB := Lib.hid h
  clear h
  by_cases a1 : l.length < 1
  · have e1 : decide ((l.length : Int) < 1) = true := decide_eq_true (by omega)
    have HN : Hid (¬ tableP l) := Lib.hid (fun h => by have := h.1; omega)
    clear a1
    go_enter Try.func26, Try.ntmps26
    go_wp2_with fail
    go_ret
    exact isTableP_no HN.out (by repeat' (first | (with_reducible exact Below.refl _ _) | (with_reducible assumption) | (with_reducible refine Below.drew ?_) | (with_reducible refine below_drewN ?_ _) | (with_reducible refine bel_alloc ?_ _) | (with_reducible refine Below.setCell ?_ ?_ _) | (with_reducible refine bel_call ?_ (by assumption)) | (simp <;> omega)))
  have e1 : decide ((l.length : Int) < 1) = false := decide_eq_false (by omega)
  by_cases a2 : 32 < l.length
  · have e2 : decide ((32 : Int) < (l.length : Int)) = true := decide_eq_true (by omega)
    have HN : Hid (¬ tableP l) := Lib.hid (fun h => by have := h.2.1; omega)
    clear a2
    go_enter Try.func26, Try.ntmps26
    go_wp2_with fail
    go_ret
    exact isTableP_no HN.out (by repeat' (first | (with_reducible exact Below.refl _ _) | (with_reducible assumption) | (with_reducible refine Below.drew ?_) | (with_reducible refine below_drewN ?_ _) | (with_reducible refine bel_alloc ?_ _) | (with_reducible refine Below.setCell ?_ ?_ _) | (with_reducible refine bel_call ?_ (by assumption)) | (simp <;> omega)))
  have e2 : decide ((32 : Int) < (l.length : Int)) = false := decide_eq_false (by omega)
  have A1 := Lib.hid a1
  have A2 := Lib.hid a2
  obtain ⟨b, o, x0, fv0, tv0, hao, hbb, hx0, -, c1, -, -, hfv0, -, -⟩ := IsRgs.at4 HB.out (show 0 < l.length by omega)
  subst hao
  obtain ⟨b', o', x9, fv9, tv9, hao, hbb', hx9, -, -, c2, -, -, htv9, -⟩ := IsRgs.at4 HB.out (show l.length - 1 < l.length by omega)
  simp only [Option.some.injEq, Addr.mk.injEq, and_true] at hao
  obtain ⟨rfl, rfl⟩ := hao
  obtain ⟨fo0, fc0, rfl, -, -, -⟩ := hfv0.out.form
  obtain ⟨to9, tc9, rfl, -, -, -⟩ := htv9.out.form
  have t0 : (0 : Int) < l.length := by omega
  have t1 : ((l.length : Int) - 1).toNat = l.length - 1 := by omega
  have t2 : (0 : Int) ≤ (l.length : Int) - 1 := by omega
  have t4 := IntWalk.i64_in ((l.length : Int) - 1) (by omega)
  simp only [Nat.zero_mul, Nat.add_zero] at c1
  clear a1 a2
  by_cases a3 : 0 < x0.2.1.length
  · have e3 : decide (0 < x0.2.1.length) = true := decide_eq_true a3
    have HN : Hid (¬ tableP l) := Lib.hid (fun h => by have := (tableP_at h hx0.out).2.1; rw [this] at a3; exact absurd a3 (Nat.not_lt_zero _))
    clear a3
    go_enter Try.func26, Try.ntmps26
    go_wp2_with fail
    go_ret
    exact isTableP_no HN.out (by repeat' (first | (with_reducible exact Below.refl _ _) | (with_reducible assumption) | (with_reducible refine Below.drew ?_) | (with_reducible refine below_drewN ?_ _) | (with_reducible refine bel_alloc ?_ _) | (with_reducible refine Below.setCell ?_ ?_ _) | (with_reducible refine bel_call ?_ (by assumption)) | (simp <;> omega)))
  have e3 : decide (0 < x0.2.1.length) = false := decide_eq_false a3
  by_cases a4 : 0 < x9.2.2.1.length
  · have e4 : decide (0 < x9.2.2.1.length) = true := decide_eq_true a4
    have HN : Hid (¬ tableP l) := Lib.hid (fun h => by have := (tableP_at h hx9.out).2.2.2 (by have := A1.out; omega); omega)
    clear a3 a4
    go_enter Try.func26, Try.ntmps26
    go_wp2_with fail
    go_ret
    exact isTableP_no HN.out (by repeat' (first | (with_reducible exact Below.refl _ _) | (with_reducible assumption) | (with_reducible refine Below.drew ?_) | (with_reducible refine below_drewN ?_ _) | (with_reducible refine bel_alloc ?_ _) | (with_reducible refine Below.setCell ?_ ?_ _) | (with_reducible refine bel_call ?_ (by assumption)) | (simp <;> omega)))
  have e4 : decide (0 < x9.2.2.1.length) = false := decide_eq_false a4
  have HX0 : Hid (x0.2.1.length = 0) := Lib.hid (by omega)
  have HX9 : Hid (x9.2.2.1.length = 0) := Lib.hid (by omega)
  clear a3 a4
  go_enter Try.func26, Try.ntmps26
  go_wp2_with fail
  clear c1 c2 t1 t2 t4 e3 e4
  go_loopw [3] (fun i wr => ∃ k : Nat, k ≤ l.length ∧ i = .int .i64 k ∧ Hid (∀ j x, j < k → l[j]? = some x → docAt l j x) ∧ Hid (Below w.heap.size w wr)) (fun i _ => l.length - (intOf i).toNat)
  case atStart => exact ⟨0, Nat.zero_le _, rfl, fun j x hj => absurd hj (Nat.not_lt_zero _), Below.refl _ _⟩
  case round =>
    obtain ⟨k, hk, rfl, hall, hbel⟩ := hrel
    by_cases hlt : k < l.length
    · obtain ⟨b2, o2, x, fv, tv, hao, hbb2, hx, c0', c1', c2', c3', hfv, htv, hI⟩ := IsRgs.at4 HB.out hlt
      simp only [Option.some.injEq, Addr.mk.injEq, and_true] at hao
      obtain ⟨rfl, rfl⟩ := hao
      have c0 := (hbel.out.cell (p := ⟨b, o + k * 4, none⟩) hbb).trans c0'
      have c1 := (hbel.out.cell (p := ⟨b, o + k * 4 + 1, none⟩) hbb).trans c1'
      have c2 := (hbel.out.cell (p := ⟨b, o + k * 4 + 2, none⟩) hbb).trans c2'
      have c3 := (hbel.out.cell (p := ⟨b, o + k * 4 + 3, none⟩) hbb).trans c3'
      obtain ⟨fo, fc, rfl, -, -, -⟩ := hfv.out.form
      obtain ⟨to, tc, rfl, -, -, -⟩ := htv.out.form
      have hl0 : (k : Int) < l.length := by omega
      have hl1 : 0 ≤ (k : Int) := by omega
      have C0 := Lib.hid c0'; have C1 := Lib.hid c1'
      clear c0' c1' c2' c3' hbb2 hbb'
      have HR : Hid (Calls Try.prog _ _ wr (Ret (.bool (rightB x)) wr)) := Lib.hid (rRight_any _ _ x.1 x.2.2.2 x.2.1 x.2.2.1 wr (hfv.out.below hbel.out) (htv.out.below hbel.out))
      have HNO : Hid (¬ docAt l k x → ¬ tableP l) := Lib.hid (fun h h' => h (tableP_docAt h' hx.out))
      cases hR : rightB x
      · rw [hR] at HR
        have HF : Hid (¬ tableP l) := Lib.hid (HNO.out (fun h => by rw [h.1] at hR; cases hR))
        clear hR
        go_wp2_with fail
        refine HR.out.mono ?_
        rintro e w3 ⟨rfl, hb⟩
        have G3 := Lib.hid (bel_call hbel.out hb)
        clear hb
        go_wp2_with fail
        go_quiet (fail)
        go_wp2_with fail
        go_ret
        exact isTableP_no HF.out (below_drewN G3.out _)
      · rw [hR] at HR
        have HRR := Lib.hid hR
        clear hR
        go_wp2_with fail
        refine HR.out.mono ?_
        rintro e w3 ⟨rfl, hb⟩
        have G3 := Lib.hid (bel_call hbel.out hb)
        clear hb
        go_wp2_with fail
        have HCLOSE : Hid (∀ w' , Below w.heap.size w w' → (∀ j y, k = j + 1 → l[j]? = some y → y.2.2.1.length ≠ 0 ∧ y.2.2.1 = x.2.1) → (∀ m y, m < k → l[m]? = some y → y.1 ≠ x.1) →
            ∃ k' : Nat, k' ≤ l.length ∧ (.int .i64 ((k : Int) + 1) : Value) = .int .i64 k' ∧ Hid (∀ j x, j < k' → l[j]? = some x → docAt l j x) ∧ Hid (Below w.heap.size w w')) := Lib.hid (fun w' hb h2 h3 => by
          refine ⟨k + 1, hlt, by go_num, fun j y hj hy => ?_, hb⟩
          rcases Nat.lt_or_ge j k with h | h
          · exact hall.out j y h hy
          · have : j = k := by omega
            subst this
            have := hx.out
            rw [hy] at this
            cases this
            exact ⟨HRR.out, h2, h3⟩)
        have c0 := (G3.out.cell (p := ⟨b, o + k * 4, none⟩) hbb).trans C0.out
        have c1 := (G3.out.cell (p := ⟨b, o + k * 4 + 1, none⟩) hbb).trans C1.out
        have hw1 := IntWalk.i64_in ((k : Int) + 1) (by omega)
        by_cases k0 : k = 0
        · have f0 : decide (0 < k) = false := decide_eq_false (by omega)
          have K0 := Lib.hid k0
          clear k0
          go_quiet (fail)
          go_wp2_with fail
          generalize hW : w3.drewN nq = W
          have GW : Hid (Below w.heap.size w W) := Lib.hid (by rw [← hW]; exact below_drewN G3.out _)
          clear hW c0 c1
          go_loopw [5] (fun i wr => ∃ m : Nat, m ≤ k ∧ i = .int .i64 m ∧ Hid (∀ j y, j < m → l[j]? = some y → y.1 ≠ x.1) ∧ Hid (Below w.heap.size w wr)) (fun i _ => k - (intOf i).toNat)
          case atStart => exact ⟨0, Nat.zero_le _, rfl, fun j x hj => absurd hj (Nat.not_lt_zero _), GW.out⟩
          case round =>
            obtain ⟨m, hm, rfl, hids, hbel2⟩ := hrel
            by_cases hmk : m < k
            · obtain ⟨b4, o4, z, gv4, uv4, hao, hbb4, hz, e0', -, -, -, -, -, -⟩ := IsRgs.at4 HB.out (show m < l.length by omega)
              simp only [Option.some.injEq, Addr.mk.injEq, and_true] at hao
              obtain ⟨rfl, rfl⟩ := hao
              have c0 := (hbel2.out.cell (p := ⟨b, o + k * 4, none⟩) hbb).trans C0.out
              have e0 := (hbel2.out.cell (p := ⟨b, o + m * 4, none⟩) hbb).trans e0'
              have hm0 : (m : Int) < (k : Int) := by omega
              have hm1 : (0 : Int) ≤ (m : Int) := by omega
              have hm2 : (m : Int) < l.length := by omega
              have hw2 := IntWalk.i64_in ((m : Int) + 1) (by omega)
              clear e0' hbb4
              cases hz1 : (z.1 == x.1)
              · have HN2 : Hid (∀ j y, j < m + 1 → l[j]? = some y → y.1 ≠ x.1) := Lib.hid (fun j y hj hy => by
                  rcases Nat.lt_or_ge j m with h | h
                  · exact hids.out j y h hy
                  · have : j = m := by omega
                    subst this
                    have := hz.out
                    rw [hy] at this
                    cases this
                    exact beq_eq_false_iff_ne.1 hz1)
                go_wp2_with fail
                go_quiet (fail)
                go_wp2_with fail
                go_roundw
                case rel => exact ⟨m + 1, by omega, by go_num, HN2.out, below_drewN hbel2.out _⟩
                case measure => simp [intOf]; omega
              · have HF : Hid (¬ tableP l) := Lib.hid (HNO.out (fun h => h.2.2 m z hmk hz.out (beq_iff_eq.1 hz1)))
                go_wp2_with fail
                go_quiet (fail)
                go_wp2_with fail
                go_ret
                exact isTableP_no HF.out (below_drewN hbel2.out _)
            · have hkm : m = k := by omega
              subst hkm
              go_wp2_with fail
              go_roundw
              case rel => exact HCLOSE.out _ hbel2.out (fun j y hj _ => by have := K0.out; omega) hids.out
              case measure => simp [intOf]; omega
        · have f0 : decide (0 < k) = true := decide_eq_true (by omega)
          have t1 : ((k : Int) - 1).toNat = k - 1 := by omega
          have t2 : (0 : Int) ≤ (k : Int) - 1 := by omega
          have t3 : (k : Int) - 1 < l.length := by omega
          have t4 := IntWalk.i64_in ((k : Int) - 1) (by omega)
          obtain ⟨b3, o3, y, gv, uv, hao, hbb3, hy, -, -, d2', -, -, huv, -⟩ := IsRgs.at4 HB.out (show k - 1 < l.length by omega)
          simp only [Option.some.injEq, Addr.mk.injEq, and_true] at hao
          obtain ⟨rfl, rfl⟩ := hao
          have d2 := (G3.out.cell (p := ⟨b, o + (k - 1) * 4 + 2, none⟩) hbb).trans d2'
          obtain ⟨uo, uc, rfl, -, -, -⟩ := huv.out.form
          have kc := fun nq => (hfv.out.below (below_drewN G3.out nq)).conv Try.underlying23 Try.underlying5 Try.underlying9
          have kd := fun nq => (huv.out.below (below_drewN G3.out nq)).conv Try.underlying23 Try.underlying5 Try.underlying9
          have s3 := str_beq huv.out.rng hfv.out.rng
          have K0 := Lib.hid k0
          have HY : Hid (∀ j z, k = j + 1 → l[j]? = some z → z = y) := Lib.hid (fun j z hj hz => by
            have h := hy.out
            rw [show k - 1 = j by omega, hz] at h
            exact Option.some.inj h)
          clear k0 d2' hbb3
          by_cases h1 : y.2.2.1.length = 0
          · have f1 : ((y.2.2.1.length : Int) == 0) = true := by rw [h1]; rfl
            have HF : Hid (¬ tableP l) := Lib.hid (HNO.out (fun h => (h.2.1 (k - 1) y (by have := K0.out; omega) hy.out).1 h1))
            clear h1
            go_quiet (fail)
            go_wp2_with fail
            go_ret
            exact isTableP_no HF.out (below_drewN G3.out _)
          · have f1 : ((y.2.2.1.length : Int) == 0) = false := beq_eq_false_iff_ne.2 (by omega)
            by_cases h2 : y.2.2.1 = x.2.1
            · rw [decide_eq_true h2] at s3
              have HP : Hid (∀ j z, k = j + 1 → l[j]? = some z → z.2.2.1.length ≠ 0 ∧ z.2.2.1 = x.2.1) := Lib.hid (fun j z hj hz => by rw [HY.out j z hj hz]; exact ⟨h1, h2⟩)
              clear h1 h2
              go_quiet (fail)
              clear t1 t2 t3 t4 d2 c1 s3 kc kd
              go_wp2_with fail
              generalize hW : w3.drewN nq = W
              have GW : Hid (Below w.heap.size w W) := Lib.hid (by rw [← hW]; exact below_drewN G3.out _)
              clear hW c0 c1
              go_loopw [5] (fun i wr => ∃ m : Nat, m ≤ k ∧ i = .int .i64 m ∧ Hid (∀ j y, j < m → l[j]? = some y → y.1 ≠ x.1) ∧ Hid (Below w.heap.size w wr)) (fun i _ => k - (intOf i).toNat)
              case atStart => exact ⟨0, Nat.zero_le _, rfl, fun j x hj => absurd hj (Nat.not_lt_zero _), GW.out⟩
              case round =>
                obtain ⟨m, hm, rfl, hids, hbel2⟩ := hrel
                by_cases hmk : m < k
                · obtain ⟨b4, o4, z, gv4, uv4, hao, hbb4, hz, e0', -, -, -, -, -, -⟩ := IsRgs.at4 HB.out (show m < l.length by omega)
                  simp only [Option.some.injEq, Addr.mk.injEq, and_true] at hao
                  obtain ⟨rfl, rfl⟩ := hao
                  have c0 := (hbel2.out.cell (p := ⟨b, o + k * 4, none⟩) hbb).trans C0.out
                  have e0 := (hbel2.out.cell (p := ⟨b, o + m * 4, none⟩) hbb).trans e0'
                  have hm0 : (m : Int) < (k : Int) := by omega
                  have hm1 : (0 : Int) ≤ (m : Int) := by omega
                  have hm2 : (m : Int) < l.length := by omega
                  have hw2 := IntWalk.i64_in ((m : Int) + 1) (by omega)
                  clear e0' hbb4
                  cases hz1 : (z.1 == x.1)
                  · have HN2 : Hid (∀ j y, j < m + 1 → l[j]? = some y → y.1 ≠ x.1) := Lib.hid (fun j y hj hy => by
                      rcases Nat.lt_or_ge j m with h | h
                      · exact hids.out j y h hy
                      · have : j = m := by omega
                        subst this
                        have := hz.out
                        rw [hy] at this
                        cases this
                        exact beq_eq_false_iff_ne.1 hz1)
                    go_wp2_with fail
                    go_quiet (fail)
                    go_wp2_with fail
                    go_roundw
                    case rel => exact ⟨m + 1, by omega, by go_num, HN2.out, below_drewN hbel2.out _⟩
                    case measure => simp [intOf]; omega
                  · have HF : Hid (¬ tableP l) := Lib.hid (HNO.out (fun h => h.2.2 m z hmk hz.out (beq_iff_eq.1 hz1)))
                    go_wp2_with fail
                    go_quiet (fail)
                    go_wp2_with fail
                    go_ret
                    exact isTableP_no HF.out (below_drewN hbel2.out _)
                · have hkm : m = k := by omega
                  subst hkm
                  go_wp2_with fail
                  go_roundw
                  case rel => exact HCLOSE.out _ hbel2.out HP.out hids.out
                  case measure => simp [intOf]; omega
            · rw [decide_eq_false h2] at s3
              have HF : Hid (¬ tableP l) := Lib.hid (HNO.out (fun h => h2 (h.2.1 (k - 1) y (by have := K0.out; omega) hy.out).2))
              clear h1 h2
              go_quiet (fail)
              go_wp2_with fail
              go_ret
              exact isTableP_no HF.out (below_drewN G3.out _)
    · have hkl : k = l.length := by omega
      subst hkl
      have HT : Hid (tableP l) := Lib.hid (tableP_intro (by have := A1.out; omega) (by have := A2.out; omega) (fun x hx => by have := hx0.out; rw [hx] at this; cases this; exact HX0.out) (fun x hx => by have := hx9.out; rw [hx] at this; cases this; exact HX9.out) (fun k x hx => hall.out k x (List.getElem?_eq_some_iff.1 hx).1 hx))
      go_wp2_with fail
      go_ret
      exact ⟨fun _ => rfl, fun h => absurd HT.out h, hbel.out⟩
end Rm
end Go.Proofs.Ytbeniogffhihlaa
