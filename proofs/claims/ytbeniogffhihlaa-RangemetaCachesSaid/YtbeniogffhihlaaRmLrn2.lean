/- rangemeta: a cache learns a range. -/
import Derived.Test.YtbeniogffhihlaaRmLrn
set_option linter.unusedVariables false
set_option linter.unusedSimpArgs false
namespace Go.Proofs.Ytbeniogffhihlaa
open Go.RowKit
namespace Rm
/-- what Learn has kept so far -/
structure LeI (W0 : World) (B : Nat) (L : List RangeD) (r : RangeD) (wr : World) (lv : Value) (k : Nat) : Prop where
  bel : Below W0.heap.size W0 wr
  row : OwnRgs wr B lv ((L.take k).filter (keepC r))
  new : ∀ b, lv.ownBlock = some b → W0.heap.size ≤ b
  no : (L.take k).any (stopC r) = false
theorem LeI.below {W0 : World} {B : Nat} {L : List RangeD} {r : RangeD} {wr w1 : World} {lv : Value} {k : Nat} (h : LeI W0 B L r wr lv k) (hb : Below wr.heap.size wr w1) : LeI W0 B L r w1 lv k :=
  ⟨bel_call h.bel hb, h.row.below hb, h.new, h.no⟩
theorem LeI.skip {W0 : World} {B : Nat} {L : List RangeD} {r x : RangeD} {wr : World} {lv : Value} {k : Nat} (h : LeI W0 B L r wr lv k) (hx : L[k]? = some x) (hk : keepC r x = false) (hs : stopC r x = false) : LeI W0 B L r wr lv (k + 1) := by
  refine ⟨h.bel, ?_, h.new, ?_⟩
  · rw [take_snoc hx, List.filter_append, List.filter_cons, if_neg (by rw [hk]; simp), List.filter_nil, List.append_nil]
    exact h.row
  · rw [take_snoc hx, List.any_append, h.no]
    simp [hs]
theorem below_grow {W0 w w1 : World} {v : Value} (h : Below W0.heap.size W0 w) (k : w.grownBy w1 v.ownBlock) (hv : ∀ b, v.ownBlock = some b → W0.heap.size ≤ b) : Below W0.heap.size W0 w1 :=
  ⟨k.os.trans h.os, k.tape.trans h.tape, k.output.trans h.output, Nat.le_trans h.size k.size, fun b hb => (k.block b (Nat.lt_of_lt_of_le hb h.size) (fun e => by have := hv b e.symm; omega)).trans (h.block b hb)⟩
theorem flat_drop4 : ∀ (rs : List RV) (k : Nat), (rs.flatMap cells4).drop (k * 4) = (rs.drop k).flatMap cells4
  | [], k => by simp
  | x :: rs, 0 => by simp
  | x :: rs, k + 1 => by
    rw [List.drop_succ_cons, List.flatMap_cons, ← flat_drop4 rs k, List.drop_append, show (cells4 x).length = 4 from rfl, show (k + 1) * 4 - 4 = k * 4 by omega, List.drop_eq_nil_of_le (by rw [show (cells4 x).length = 4 from rfl]; omega), List.nil_append]
theorem stop_any {L : List RangeD} {r x : RangeD} {k : Nat} (hx : L[k]? = some x) (hs : stopC r x = true) : L.any (stopC r) = true := List.any_eq_true.2 ⟨x, List.mem_of_getElem? hx, hs⟩
set_option maxRecDepth 100000 in
set_option maxHeartbeats 2000000 in
theorem learn_any (B cb : Nat) (v fv tv : Value) (L : List RangeD) (r : RangeD) (w : World) (hcb : w.heap[cb]? = some (.cells #[v] 88 (0, 0))) (h : OwnRgs w B v L) (hn : L.length ≤ 900) (hL : ∀ x ∈ L, Fair x) (hS : Srt L)
    (hf : IsB w fv r.2.1) (ht : IsB w tv r.2.2.1) (hI : I64 r.1 ∧ I64 r.2.2.2) (hB : B ≤ w.heap.size) (hl1 : r.2.1.length ≤ 140737488355328) (hl2 : r.2.2.1.length ≤ 140737488355328) :
    Calls Try.prog 29 #[.pointer (some ⟨cb, 0, none⟩), .agg #[.int .i64 r.1, fv, tv, .int .i64 r.2.2.2]] w (StoP B cb v (learnB L r) (learnL L r) w) := by
  obtain ⟨i0, hi0, hz0, hz1, hz2⟩ := info_parts infoRg
  have HI := Lib.hid hi0; have HZ0 := Lib.hid hz0; have HZ1 := Lib.hid hz1; have HZ2 := Lib.hid hz2
  clear hi0 hz0 hz1 hz2
  obtain ⟨fo, fc, rfl, -, -, -⟩ := hf.form
  obtain ⟨to, tc, rfl, -, -, -⟩ := ht.form
  have hlt := (Array.getElem?_eq_some_iff.1 hcb).1
  have hvt := h.typed
  have hvcb : v.ownBlock ≠ some cb := fun e => by
    obtain ⟨-, -, cur, hc⟩ := hvt cb e
    exact absurd (types_apart hc hcb) (by decide)
  obtain ⟨W0, hW0⟩ : ∃ W0, w.alloc (.cells #[.int .i64 r.1, .slice fo r.2.1.length fc, .slice to r.2.2.1.length tc, .int .i64 r.2.2.2] 39) = W0 := ⟨_, rfl⟩
  have hb0 : Below w.heap.size w W0 := hW0 ▸ bel_alloc (.refl _ w) _
  have hx0 : W0.heap[w.heap.size]? = some (.cells #[.int .i64 r.1, .slice fo r.2.1.length fc, .slice to r.2.2.1.length tc, .int .i64 r.2.2.2] 39 (0, 0)) := by rw [← hW0]; exact heap_alloc_new w _
  have a0 : W0.cell? ⟨w.heap.size, 0, none⟩ = some (.int .i64 r.1) := by rw [cell_of_row W0 _ 0 _ _ _ hx0]; rfl
  have a1 : W0.cell? ⟨w.heap.size, 1, none⟩ = some (.slice fo r.2.1.length fc) := by rw [cell_of_row W0 _ 1 _ _ _ hx0]; rfl
  have a2 : W0.cell? ⟨w.heap.size, 2, none⟩ = some (.slice to r.2.2.1.length tc) := by rw [cell_of_row W0 _ 2 _ _ _ hx0]; rfl
  have a3 : W0.cell? ⟨w.heap.size, 3, none⟩ = some (.int .i64 r.2.2.2) := by rw [cell_of_row W0 _ 3 _ _ _ hx0]; rfl
  have HR := Lib.hid (right_any (.slice fo r.2.1.length fc) (.slice to r.2.2.1.length tc) r.1 r.2.2.2 r.2.1 r.2.2.1 W0 (hf.below hb0) (ht.below hb0))
  obtain ⟨vo, vc, rfl, -, -, -⟩ := h.isRgs.form
  have HB0 := Lib.hid hb0; have HX0 := Lib.hid hx0; have HCB := Lib.hid hcb; have HV := Lib.hid hvcb; have HH := Lib.hid h; have HF := Lib.hid (hf.below hb0); have HT := Lib.hid (ht.below hb0); have HLT := Lib.hid hlt; have HX0L := Lib.hid (Array.getElem?_eq_some_iff.1 hx0).1
  have HFL := Lib.hid hL; have HS := Lib.hid hS; have HI64 := Lib.hid hI
  clear hb0 hx0 hcb hvcb h hf ht hlt hvt hL hS hI
  cases hr : rightB (r.1, r.2.1, r.2.2.1, r.2.2.2) with
  | false =>
    rw [hr] at HR
    have hlb : learnB L r = false := by unfold learnB; rw [show rightB r = false from hr]; rfl
    have hll : learnL L r = L := by unfold learnL; rw [hlb]; rfl
    rw [hlb, hll]
    go_enter Try.func29, Try.ntmps29
    go_wp2_with fail
    refine HR.out.mono ?_
    rintro e w1 ⟨rfl, hb⟩
    have HB1 := Lib.hid (bel_call HB0.out hb)
    clear hb HR
    go_wp2_with fail
    go_ret
    exact ⟨rfl, _, (HB1.out.block cb HLT.out).trans HCB.out, HH.out.below HB1.out, .of_ext HB1.out, .inl rfl⟩
  | true =>
    rw [hr] at HR
    go_enter Try.func29, Try.ntmps29
    go_wp2_with fail
    refine HR.out.mono ?_
    rintro e w1 ⟨rfl, hb⟩
    have HB1 := Lib.hid (bel_call HB0.out hb)
    have HB01 := Lib.hid hb
    have hcb1 := (HB1.out.block cb HLT.out).trans HCB.out
    have c1 : w1.cell? ⟨cb, 0, none⟩ = some (.slice vo L.length vc) := by rw [cell_of_row w1 cb 0 _ _ _ hcb1]; rfl
    clear hb HR hcb1 a0 a1 a2 a3
    go_wp2_with fail
    go_loopw [5, 18] (fun lv i wr => ∃ k : Nat, i = .int .i64 k ∧ k ≤ L.length ∧ Hid (LeI W0 B L r wr lv k)) (fun _ i _ => L.length - (intOf i).toNat)
    case atStart => exact ⟨0, rfl, Nat.zero_le _, Lib.hid ⟨HB01.out, ⟨[], rfl, ⟨rfl, .inl ⟨rfl, rfl⟩⟩, fun _ h => (by cases h)⟩, fun _ h => (by cases h), rfl⟩⟩
    case round =>
      obtain ⟨k, rfl, hk, hI⟩ := hrel
      by_cases hlt : k < L.length
      · obtain ⟨g, cap, hgv⟩ := HH.out.slice (by rintro rfl; simp at hlt)
        simp only [Value.slice.injEq, true_and] at hgv
        obtain ⟨rfl, rfl⟩ := hgv
        obtain ⟨x, hx⟩ : ∃ x, L[k]? = some x := ⟨_, List.getElem?_eq_getElem hlt⟩
        obtain ⟨xf, xt, c0', c1', c2', c3', o1, o2, -, hg2⟩ := HH.out.at_ hx
        have hbw := bel_call HB0.out hI.out.bel
        have c0 := (hbw.cell (p := ⟨g, k * 4, none⟩) hg2).trans c0'
        have c1 := (hbw.cell (p := ⟨g, k * 4 + 1, none⟩) hg2).trans c1'
        have c2 := (hbw.cell (p := ⟨g, k * 4 + 2, none⟩) hg2).trans c2'
        have c3 := (hbw.cell (p := ⟨g, k * 4 + 3, none⟩) hg2).trans c3'
        have hxi : I64 x.1 ∧ I64 x.2.2.2 := by
          obtain ⟨rs, rfl, -, hgd⟩ := HH.out
          rw [List.getElem?_map, Option.map_eq_some_iff] at hx
          obtain ⟨s, hs, rfl⟩ := hx
          exact (hgd s (List.mem_of_getElem? hs)).2.2
        have hfx := HFL.out x (List.mem_of_getElem? hx)
        obtain ⟨xfo, xfc, rfl, -, -, -, -⟩ := o1.form
        obtain ⟨xto, xtc, rfl, -, -, -, -⟩ := o2.form
        obtain ⟨W1, hW1⟩ : ∃ W1, wr.alloc (.cells #[.int .i64 x.1, .slice xfo x.2.1.length xfc, .slice xto x.2.2.1.length xtc, .int .i64 x.2.2.2] 39) = W1 := ⟨_, rfl⟩
        have hbW : Below wr.heap.size wr W1 := hW1 ▸ bel_alloc (.refl _ wr) _
        have hx1 : W1.heap[wr.heap.size]? = some (.cells #[.int .i64 x.1, .slice xfo x.2.1.length xfc, .slice xto x.2.2.1.length xtc, .int .i64 x.2.2.2] 39 (0, 0)) := by rw [← hW1]; exact heap_alloc_new wr _
        have H1 := Lib.hid (hI.out.below hbW)
        have hr1 := (H1.out.bel.block _ HX0L.out).trans HX0.out
        have d0 : W1.cell? ⟨wr.heap.size, 0, none⟩ = some (.int .i64 x.1) := by rw [cell_of_row W1 _ 0 _ _ _ hx1]; rfl
        have d1 : W1.cell? ⟨wr.heap.size, 1, none⟩ = some (.slice xfo x.2.1.length xfc) := by rw [cell_of_row W1 _ 1 _ _ _ hx1]; rfl
        have d2 : W1.cell? ⟨wr.heap.size, 2, none⟩ = some (.slice xto x.2.2.1.length xtc) := by rw [cell_of_row W1 _ 2 _ _ _ hx1]; rfl
        have d3 : W1.cell? ⟨wr.heap.size, 3, none⟩ = some (.int .i64 x.2.2.2) := by rw [cell_of_row W1 _ 3 _ _ _ hx1]; rfl
        have a0 : W1.cell? ⟨w.heap.size, 0, none⟩ = some (.int .i64 r.1) := by rw [cell_of_row W1 _ 0 _ _ _ hr1]; rfl
        have a1 : W1.cell? ⟨w.heap.size, 1, none⟩ = some (.slice fo r.2.1.length fc) := by rw [cell_of_row W1 _ 1 _ _ _ hr1]; rfl
        have a2 : W1.cell? ⟨w.heap.size, 2, none⟩ = some (.slice to r.2.2.1.length tc) := by rw [cell_of_row W1 _ 2 _ _ _ hr1]; rfl
        have a3 : W1.cell? ⟨w.heap.size, 3, none⟩ = some (.int .i64 r.2.2.2) := by rw [cell_of_row W1 _ 3 _ _ _ hr1]; rfl
        have HM := Lib.hid (meet_any (.slice xfo x.2.1.length xfc) (.slice xto x.2.2.1.length xtc) (.slice fo r.2.1.length fc) (.slice to r.2.2.1.length tc) x.2.1 x.2.2.1 r.2.1 r.2.2.1 W1 (o1.isB.below (hbw.trans (hbW.mono hbw.size))) (o2.isB.below (hbw.trans (hbW.mono hbw.size))) (HF.out.below H1.out.bel) (HT.out.below H1.out.bel) (by have := hfx.1; omega) (by have := hfx.2.1; omega) hl1 hl2)
        have X1 := Lib.hid o1.isB; have X2 := Lib.hid o2.isB; have O1 := Lib.hid o1; have O2 := Lib.hid o2; have BW1 := Lib.hid (hbw.trans (hbW.mono hbw.size))
        have HX := Lib.hid hx; have HXI := Lib.hid hxi; have HX1 := Lib.hid hx1; have HR1 := Lib.hid hr1
        have hl0 : (k : Int) < L.length := by omega
        have hl1' : 0 ≤ (k : Int) := by omega
        have hw1 := IntWalk.i64_in ((k : Int) + 1) (by omega)
        clear c0' c1' c2' c3' o1 o2 hbw hbW hx1 hr1 hx hxi hfx hI
        cases q1 : (x.1 == r.1) with
        | true =>
          have HKP : Hid (keepC r x = false) := Lib.hid (by unfold keepC; rw [q1]; rfl)
          have H2 := H1
          have BW := BW1.out
          have q1' : (x.1 != r.1) = false := by unfold bne; rw [q1]; rfl
          clear HM
          rcases Int.lt_trichotomy r.2.2.2 x.2.2.2 with hg | hg | hg
          · -- a newer one is known
            have hs : stopC r x = true := by unfold stopC; rw [HKP.out, decide_eq_true hg]; rfl
            have hlb : learnB L r = false := by unfold learnB; rw [stop_any HX.out hs]; simp
            have hll : learnL L r = L := by unfold learnL; rw [hlb]; rfl
            have HLB := Lib.hid hlb; have HLL := Lib.hid hll
            have HBE := Lib.hid (bel_call HB0.out H2.out.bel)
            clear hs hlb hll
            go_wp2_with fail
            go_ret
            rw [HLB.out, HLL.out]
            exact ⟨rfl, _, (HBE.out.block cb HLT.out).trans HCB.out, HH.out.below HBE.out, .of_ext HBE.out, .inl rfl⟩
          · -- of the same age
            have hg1 : ¬ r.2.2.2 < x.2.2.2 := by omega
            have hg2 : (x.2.2.2 == r.2.2.2) = true := beq_iff_eq.2 hg.symm
            have hsm := same_any (.slice xfo x.2.1.length xfc) (.slice xto x.2.2.1.length xtc) (.slice fo r.2.1.length fc) (.slice to r.2.2.1.length tc) x r W1 (X1.out.below BW) (X2.out.below BW) (HF.out.below H2.out.bel) (HT.out.below H2.out.bel) HXI.out HI64.out
            clear hg
            cases q3 : sameB x r with
            | true =>
              have hs : stopC r x = false := by unfold stopC; rw [HKP.out, decide_eq_false hg1, hg2, q3]; rfl
              rw [q3] at hsm
              have HSM := Lib.hid hsm
              have H3 := Lib.hid (H2.out.skip HX.out HKP.out hs)
              clear hs hsm
              go_wp2_with fail
              refine HSM.out.mono ?_
              rintro e w9 ⟨rfl, hb⟩
              have H9 := Lib.hid (H3.out.below hb)
              clear hb HSM H2 H3
              go_wp2_with fail
              go_roundw
              case rel => exact ⟨k + 1, by go_num, by omega, H9⟩
              case measure => simp [intOf]; omega
            | false =>
              have hs : stopC r x = true := by unfold stopC; rw [HKP.out, hg2, q3]; simp
              have hlb : learnB L r = false := by unfold learnB; rw [stop_any HX.out hs]; simp
              have hll : learnL L r = L := by unfold learnL; rw [hlb]; rfl
              have HLB := Lib.hid hlb; have HLL := Lib.hid hll
              rw [q3] at hsm
              have HSM := Lib.hid hsm
              clear hs hlb hll hsm
              go_wp2_with fail
              refine HSM.out.mono ?_
              rintro e w9 ⟨rfl, hb⟩
              have HBE := Lib.hid (bel_call (bel_call HB0.out H2.out.bel) hb)
              clear hb HSM H2
              go_wp2_with fail
              go_ret
              rw [HLB.out, HLL.out]
              exact ⟨rfl, _, (HBE.out.block cb HLT.out).trans HCB.out, HH.out.below HBE.out, .of_ext HBE.out, .inl rfl⟩
          · -- an older one
            have hg1 : ¬ r.2.2.2 < x.2.2.2 := by omega
            have hg2 : (x.2.2.2 == r.2.2.2) = false := beq_eq_false_iff_ne.2 (by omega)
            have hs : stopC r x = false := by unfold stopC; rw [HKP.out, decide_eq_false hg1, hg2]; rfl
            have H3 := Lib.hid (H2.out.skip HX.out HKP.out hs)
            clear hs hg
            go_wp2_with fail
            go_roundw
            case rel => exact ⟨k + 1, by go_num, by omega, H3⟩
            case measure => simp [intOf]; omega
        | false =>
          have q1' : (x.1 != r.1) = true := by unfold bne; rw [q1]; rfl
          go_wp2_with fail
          refine HM.out.mono ?_
          rintro e w2 ⟨rfl, hb⟩
          have H2 := Lib.hid (H1.out.below hb)
          have BW : Below w.heap.size w w2 := bel_call BW1.out hb
          have hx2 := (hb.block _ (Array.getElem?_eq_some_iff.1 HX1.out).1).trans HX1.out
          have hr2 := (hb.block _ (Array.getElem?_eq_some_iff.1 HR1.out).1).trans HR1.out
          clear d0 d1 d2 d3 a0 a1 a2 a3 c0 c1 c2 c3
          have d0 : w2.cell? ⟨wr.heap.size, 0, none⟩ = some (.int .i64 x.1) := by rw [cell_of_row w2 _ 0 _ _ _ hx2]; rfl
          have d1 : w2.cell? ⟨wr.heap.size, 1, none⟩ = some (.slice xfo x.2.1.length xfc) := by rw [cell_of_row w2 _ 1 _ _ _ hx2]; rfl
          have d2 : w2.cell? ⟨wr.heap.size, 2, none⟩ = some (.slice xto x.2.2.1.length xtc) := by rw [cell_of_row w2 _ 2 _ _ _ hx2]; rfl
          have d3 : w2.cell? ⟨wr.heap.size, 3, none⟩ = some (.int .i64 x.2.2.2) := by rw [cell_of_row w2 _ 3 _ _ _ hx2]; rfl
          have a0 : w2.cell? ⟨w.heap.size, 0, none⟩ = some (.int .i64 r.1) := by rw [cell_of_row w2 _ 0 _ _ _ hr2]; rfl
          have a1 : w2.cell? ⟨w.heap.size, 1, none⟩ = some (.slice fo r.2.1.length fc) := by rw [cell_of_row w2 _ 1 _ _ _ hr2]; rfl
          have a2 : w2.cell? ⟨w.heap.size, 2, none⟩ = some (.slice to r.2.2.1.length tc) := by rw [cell_of_row w2 _ 2 _ _ _ hr2]; rfl
          have a3 : w2.cell? ⟨w.heap.size, 3, none⟩ = some (.int .i64 r.2.2.2) := by rw [cell_of_row w2 _ 3 _ _ _ hr2]; rfl
          clear hb HM H1 hx2 hr2
          cases q2 : meetB (x.2.1, x.2.2.1) (r.2.1, r.2.2.1) with
          | true =>
            have HKP : Hid (keepC r x = false) := Lib.hid (by unfold keepC; rw [q1, q2]; rfl)
            rcases Int.lt_trichotomy r.2.2.2 x.2.2.2 with hg | hg | hg
            · -- a newer one is known
              have hs : stopC r x = true := by unfold stopC; rw [HKP.out, decide_eq_true hg]; rfl
              have hlb : learnB L r = false := by unfold learnB; rw [stop_any HX.out hs]; simp
              have hll : learnL L r = L := by unfold learnL; rw [hlb]; rfl
              have HLB := Lib.hid hlb; have HLL := Lib.hid hll
              have HBE := Lib.hid (bel_call HB0.out H2.out.bel)
              clear hs hlb hll
              go_wp2_with fail
              go_ret
              rw [HLB.out, HLL.out]
              exact ⟨rfl, _, (HBE.out.block cb HLT.out).trans HCB.out, HH.out.below HBE.out, .of_ext HBE.out, .inl rfl⟩
            · -- of the same age
              have hg1 : ¬ r.2.2.2 < x.2.2.2 := by omega
              have hg2 : (x.2.2.2 == r.2.2.2) = true := beq_iff_eq.2 hg.symm
              have hsm := same_any (.slice xfo x.2.1.length xfc) (.slice xto x.2.2.1.length xtc) (.slice fo r.2.1.length fc) (.slice to r.2.2.1.length tc) x r w2 (X1.out.below BW) (X2.out.below BW) (HF.out.below H2.out.bel) (HT.out.below H2.out.bel) HXI.out HI64.out
              clear hg
              cases q3 : sameB x r with
              | true =>
                have hs : stopC r x = false := by unfold stopC; rw [HKP.out, decide_eq_false hg1, hg2, q3]; rfl
                rw [q3] at hsm
                have HSM := Lib.hid hsm
                have H3 := Lib.hid (H2.out.skip HX.out HKP.out hs)
                clear hs hsm
                go_wp2_with fail
                refine HSM.out.mono ?_
                rintro e w9 ⟨rfl, hb⟩
                have H9 := Lib.hid (H3.out.below hb)
                clear hb HSM H2 H3
                go_wp2_with fail
                go_roundw
                case rel => exact ⟨k + 1, by go_num, by omega, H9⟩
                case measure => simp [intOf]; omega
              | false =>
                have hs : stopC r x = true := by unfold stopC; rw [HKP.out, hg2, q3]; simp
                have hlb : learnB L r = false := by unfold learnB; rw [stop_any HX.out hs]; simp
                have hll : learnL L r = L := by unfold learnL; rw [hlb]; rfl
                have HLB := Lib.hid hlb; have HLL := Lib.hid hll
                rw [q3] at hsm
                have HSM := Lib.hid hsm
                clear hs hlb hll hsm
                go_wp2_with fail
                refine HSM.out.mono ?_
                rintro e w9 ⟨rfl, hb⟩
                have HBE := Lib.hid (bel_call (bel_call HB0.out H2.out.bel) hb)
                clear hb HSM H2
                go_wp2_with fail
                go_ret
                rw [HLB.out, HLL.out]
                exact ⟨rfl, _, (HBE.out.block cb HLT.out).trans HCB.out, HH.out.below HBE.out, .of_ext HBE.out, .inl rfl⟩
            · -- an older one
              have hg1 : ¬ r.2.2.2 < x.2.2.2 := by omega
              have hg2 : (x.2.2.2 == r.2.2.2) = false := beq_eq_false_iff_ne.2 (by omega)
              have hs : stopC r x = false := by unfold stopC; rw [HKP.out, decide_eq_false hg1, hg2]; rfl
              have H3 := Lib.hid (H2.out.skip HX.out HKP.out hs)
              clear hs hg
              go_wp2_with fail
              go_roundw
              case rel => exact ⟨k + 1, by go_num, by omega, H3⟩
              case measure => simp [intOf]; omega
          | false =>
            have HKP : Hid (keepC r x = true) := Lib.hid (by unfold keepC; rw [q1, q2]; rfl)
            have HSP : Hid (stopC r x = false) := Lib.hid (by unfold stopC; rw [HKP.out]; rfl)
            obtain ⟨rs, hrs, hro, hrg⟩ := H2.out.row
            obtain ⟨vo, vcc, rfl, -, -, -, -⟩ := own_form hro
            obtain ⟨n, hnn⟩ : ∃ n, ((L.take k).filter (keepC r)).length = n := ⟨_, rfl⟩
            have hnw := H2.out.new
            rw [hnn] at hro hnw ⊢
            have HNW := Lib.hid hnw
            have hn2 : n ≤ 900 := by rw [← hnn]; exact Nat.le_trans (List.length_filter_le _ _) (by rw [List.length_take]; omega)
            have HRS := Lib.hid hrs; have HRO := Lib.hid hro; have HRG := Lib.hid hrg; have HNN := Lib.hid hnn
            have HBS := Lib.hid (Nat.le_trans hB BW.size)
            have HO1 := Lib.hid (O1.out.below BW); have HO2 := Lib.hid (O2.out.below BW)
            clear hrs hro hrg hnn hnw
            go_wp2_with (at_builtin; refine wpList_append_cells (w := w2) (base := B) (size := 4) (n := n) (xs := rs.flatMap cells4) (.tmp 36) (.tmp 38) _ rfl rfl i0 _ 64 Try.underlying29 HI.out HZ0.out HZ1.out HZ2.out rfl (by decide) [.int .i64 x.1, .slice xfo x.2.1.length xfc, .slice xto x.2.2.1.length xtc, .int .i64 x.2.2.2] rfl (by intro u hu; simp only [List.mem_cons, List.not_mem_nil, or_false] at hu; rcases hu with rfl | rfl | rfl | rfl <;> rfl) rfl rfl HRO.out (by omega) (by omega) HBS.out ?_; intro v3 w3 ho3 hg3 hk3; have HO3 := Lib.hid ho3; have HG3 := Lib.hid hg3; have HK3 := Lib.hid hk3; clear ho3 hg3 hk3)
            have HLE : Hid (LeI W0 B L r w3 v3 (k + 1)) := Lib.hid (by
              have hrl : rs.length = n := by rw [← HNN.out, ← HRS.out, List.length_map]
              have hg3 : w2.grownBy w3 (Value.slice vo n vcc).ownBlock := HG3.out
              have hk3 : v3.ownBlock = (Value.slice vo n vcc).ownBlock ∨ v3.ownBlock = some (w2.heap.size + 1) := HK3.out
              refine ⟨below_grow H2.out.bel hg3 HNW.out, ?_, fun b hb => ?_, ?_⟩
              · rw [take_snoc HX.out, List.filter_append, List.filter_cons, if_pos HKP.out, List.filter_nil, ← HRS.out]
                exact OwnRgs.push (r := (x, .slice xfo x.2.1.length xfc, .slice xto x.2.2.1.length xtc)) (w := w2) (by rw [hrl]; exact HRO.out) HRG.out ⟨HO1.out, HO2.out, HXI.out⟩ (by rw [hrl]; exact HO3.out) hg3
              · rcases hk3 with h | h
                · exact HNW.out b (h ▸ hb)
                · rw [h] at hb
                  cases hb
                  have := H2.out.bel.size
                  omega
              · rw [take_snoc HX.out, List.any_append, H2.out.no]
                simp [HSP.out])
            exact ⟨⟨k + 1, by go_num, by omega, HLE⟩, by simp [intOf]; omega⟩
      · obtain rfl : k = L.length := by omega
        obtain ⟨LL, hLL⟩ : ∃ LL, L.filter (keepC r) = LL := ⟨_, rfl⟩
        have hlb : learnB L r = true := by
          unfold learnB
          have := hI.out.no
          rw [List.take_length] at this
          rw [this, show rightB r = true from hr]
          rfl
        have hll : learnL L r = insC LL r := by unfold learnL; rw [if_pos hlb, hLL]
        have hsrt : Srt LL := by rw [← hLL]; exact HS.out.sublist List.filter_sublist
        have hlen : LL.length ≤ 900 := by rw [← hLL]; exact Nat.le_trans (List.length_filter_le _ _) hn
        have hrow := hI.out.row
        rw [List.take_length, hLL] at hrow
        have hr1 := (hI.out.bel.block _ HX0L.out).trans HX0.out
        have a0 : wr.cell? ⟨w.heap.size, 0, none⟩ = some (.int .i64 r.1) := by rw [cell_of_row wr _ 0 _ _ _ hr1]; rfl
        have a1 : wr.cell? ⟨w.heap.size, 1, none⟩ = some (.slice fo r.2.1.length fc) := by rw [cell_of_row wr _ 1 _ _ _ hr1]; rfl
        have a2 : wr.cell? ⟨w.heap.size, 2, none⟩ = some (.slice to r.2.2.1.length tc) := by rw [cell_of_row wr _ 2 _ _ _ hr1]; rfl
        have a3 : wr.cell? ⟨w.heap.size, 3, none⟩ = some (.int .i64 r.2.2.2) := by rw [cell_of_row wr _ 3 _ _ _ hr1]; rfl
        have HBS := Lib.hid (bsearch_any _ (.slice fo r.2.1.length fc) LL r wr hrow.isRgs (HF.out.below hI.out.bel) hsrt (by omega))
        obtain ⟨lvo, lvc, rfl, -, -, -⟩ := hrow.isRgs.form
        have HROW := Lib.hid hrow; have HLB := Lib.hid hlb; have HLL := Lib.hid hll; have HNEW := Lib.hid hI.out.new; have HBEL := Lib.hid hI.out.bel; have HR1 := Lib.hid hr1
        have hnl : ¬ (L.length : Int) < L.length := by omega
        clear hlb hll hsrt hrow hr1 hI hLL
        go_wp2_with fail
        refine HBS.out.mono ?_
        rintro e w2 ⟨fb, rfl, hb⟩
        have R2 := Lib.hid (HROW.out.below hb); have B2 := Lib.hid (bel_call HBEL.out hb)
        have hr2 := (hb.block _ (Array.getElem?_eq_some_iff.1 HR1.out).1).trans HR1.out
        have HOW := Lib.hid (own_any (.slice fo r.2.1.length fc) (.slice to r.2.2.1.length tc) r.1 r.2.2.2 r.2.1 r.2.2.1 w2 (HF.out.below B2.out) (HT.out.below B2.out) hl1 hl2)
        clear a0 a1 a2 a3
        have a0 : w2.cell? ⟨w.heap.size, 0, none⟩ = some (.int .i64 r.1) := by rw [cell_of_row w2 _ 0 _ _ _ hr2]; rfl
        have a1 : w2.cell? ⟨w.heap.size, 1, none⟩ = some (.slice fo r.2.1.length fc) := by rw [cell_of_row w2 _ 1 _ _ _ hr2]; rfl
        have a2 : w2.cell? ⟨w.heap.size, 2, none⟩ = some (.slice to r.2.2.1.length tc) := by rw [cell_of_row w2 _ 2 _ _ _ hr2]; rfl
        have a3 : w2.cell? ⟨w.heap.size, 3, none⟩ = some (.int .i64 r.2.2.2) := by rw [cell_of_row w2 _ 3 _ _ _ hr2]; rfl
        clear hb HBS HROW HBEL HR1 hr2
        go_wp2_with fail
        refine HOW.out.mono ?_
        rintro e w3 ⟨nf, nt, rfl, o1, o2, hb⟩
        obtain ⟨nfo, nfc, rfl, -, -, -, -⟩ := o1.form
        obtain ⟨nto, ntc, rfl, -, -, -, -⟩ := o2.form
        obtain ⟨W4, hW4⟩ : ∃ W4, w3.alloc (.cells #[.int .i64 r.1, .slice nfo r.2.1.length nfc, .slice nto r.2.2.1.length ntc, .int .i64 r.2.2.2] 39) = W4 := ⟨_, rfl⟩
        have hbW : Below w3.heap.size w3 W4 := hW4 ▸ bel_alloc (.refl _ w3) _
        have hx4 : W4.heap[w3.heap.size]? = some (.cells #[.int .i64 r.1, .slice nfo r.2.1.length nfc, .slice nto r.2.2.1.length ntc, .int .i64 r.2.2.2] 39 (0, 0)) := by rw [← hW4]; exact heap_alloc_new w3 _
        have hb4 := bel_call hb hbW
        have B4 := Lib.hid (bel_call B2.out hb4)
        have hrow4 := R2.out.below hb4
        have hbs4 : B ≤ W4.heap.size := Nat.le_trans hB (Nat.le_trans HB0.out.size B4.out.size)
        have hBw : B ≤ w2.heap.size := Nat.le_trans hB (Nat.le_trans HB0.out.size B2.out.size)
        obtain ⟨rs, hrs, hro, hrg⟩ := hrow4
        have hne : (Value.slice lvo LL.length lvc).ownBlock ≠ some w3.heap.size := fun e => by
          have := (R2.out.typed _ e).2.1
          have := hb.size
          omega
        have hone : ∀ u ∈ rs.flatMap cells4, u.oneCell' = true := fun u hu => by
          obtain ⟨s, hs, hu⟩ := List.mem_flatMap.1 hu
          exact cells4_one (hrg s hs) u hu
        have HINS := Lib.hid (insert_any B (lowC LL r) LL.length w3.heap.size (.slice lvo LL.length lvc) (rs.flatMap cells4) [.int .i64 r.1, .slice nfo r.2.1.length nfc, .slice nto r.2.2.1.length ntc, .int .i64 r.2.2.2] W4 hro (lowC_le LL r) (by omega) rfl hx4 hne hone (by intro u hu; simp only [List.mem_cons, List.not_mem_nil, or_false] at hu; rcases hu with rfl | rfl | rfl | rfl <;> rfl) hbs4)
        have HRS := Lib.hid hrs; have HRO := Lib.hid hro; have HRG := Lib.hid hrg
        have HGR : Hid (GoodV W4 B (r, .slice nfo r.2.1.length nfc, .slice nto r.2.2.1.length ntc)) := Lib.hid ⟨(o1.mono hBw).below hbW, (o2.mono hBw).below hbW, HI64.out⟩
        clear o1 o2 hb hbW hx4 hb4 hrs hro hrg hne hone HOW a0 a1 a2 a3
        go_wp2_with fail
        refine HINS.out.mono ?_
        rintro e w5 ⟨v5, rfl, ho5, hg5, hk5⟩
        have hbe5 := below_grow B4.out hg5 HNEW.out
        have hbw5 := bel_call HB0.out hbe5
        have hcb5 := (hbw5.block cb HLT.out).trans HCB.out
        obtain ⟨v5o, v5c, rfl, -, -, -, -⟩ := own_form ho5
        have c5 : w5.cell? ⟨cb, 0, none⟩ = some (.slice vo L.length vc) := by rw [cell_of_row w5 cb 0 _ _ _ hcb5]; rfl
        have f5 := frozen_of_row w5 cb 0 _ _ hcb5
        obtain ⟨W6, hW6⟩ : ∃ W6, w5.setCell ⟨cb, 0, none⟩ (.slice v5o (LL.length + 1) v5c) = W6 := ⟨_, rfl⟩
        have hcb6 : W6.heap[cb]? = some (.cells #[.slice v5o (LL.length + 1) v5c] 88 (0, 0)) := by rw [← hW6]; exact heap_setCell_same w5 cb 0 _ _ _ hcb5
        have hchg : Chg (fun b => b = cb) w5 W6 := hW6 ▸ (Chg.refl (fun b => b = cb) w5).set (p := ⟨cb, 0, none⟩) (fun _ => rfl) _
        have hv5 : ∀ b, (Value.slice v5o (LL.length + 1) v5c).ownBlock = some b → w.heap.size ≤ b := fun b hb => by
          rcases hk5 with h | ⟨b', h1, h2⟩
          · have h3 := HNEW.out b (h ▸ hb)
            have := HB0.out.size
            omega
          · rw [h1] at hb
            cases hb
            have := B4.out.size; have := HB0.out.size
            omega
        have HOW : Hid (OwnRgs W6 B (.slice v5o (LL.length + 1) v5c) (insC LL r)) := Lib.hid (by
          have h5 : OwnRgs w5 B (.slice v5o (LL.length + 1) v5c) (insC LL r) := by
            have hrl : rs.length = LL.length := by rw [← HRS.out, List.length_map]
            have hlo := lowC_le LL r
            refine ⟨rs.take (lowC LL r) ++ [(r, .slice nfo r.2.1.length nfc, .slice nto r.2.2.1.length ntc)] ++ rs.drop (lowC LL r), ?_, ?_, fun s hs => ?_⟩
            · unfold insC
              rw [List.map_append, List.map_append, List.map_take, List.map_drop, HRS.out]
              rfl
            · have e1 : (insC LL r).length = LL.length + 1 := by unfold insC; simp only [List.length_append, List.length_take, List.length_drop, List.length_cons, List.length_nil]; omega
              rw [e1, List.flatMap_append, List.flatMap_append, ← flat_take4, ← flat_drop4]
              exact ho5
            · have hold : ∀ s ∈ rs, GoodV w5 B s := fun s hs => (HRG.out s hs).grown HRO.out hg5
              rcases List.mem_append.1 hs with hs | hs
              · rcases List.mem_append.1 hs with hs | hs
                · exact hold s (List.mem_of_mem_take hs)
                · rw [List.mem_singleton] at hs
                  subst hs
                  exact HGR.out.grown HRO.out hg5
              · exact hold s (List.mem_of_mem_drop hs)
          exact h5.chg hchg (fun b hb e => by subst e; have := hv5 b hb; have := HLT.out; omega) (fun b cur hb e => by subst e; exact absurd (types_apart hb hcb5) (by decide)))
        have HCH : Hid (Chg (fun b => b = cb ∨ (Value.slice vo L.length vc).ownBlock = some b) w W6) := Lib.hid ((Chg.of_ext hbw5).trans (hchg.mono fun b _ hb => .inl hb))
        have HCB6 := Lib.hid hcb6; have HV5 := Lib.hid hv5
        clear ho5 hg5 hk5 hbe5 hbw5 hcb5 hcb6 hchg hv5 HINS
        go_wp2_with fail
        go_ret
        rw [HLB.out, HLL.out]
        refine ⟨rfl, _, HCB6.out, HOW.out, HCH.out, ?_⟩
        cases hob : (Value.slice v5o (LL.length + 1) v5c).ownBlock with
        | none =>
          exfalso
          have := HOW.out.slice (by unfold insC; simp)
          obtain ⟨g, cap, e⟩ := this
          rw [e] at hob
          cases hob
        | some b => exact .inr ⟨b, rfl, HV5.out b hob⟩
end Rm
end Go.Proofs.Ytbeniogffhihlaa
