/- rangemeta: which ranges are a table. -/
import Derived.Test.YtbeniogffhihlaaRmOwned
import Derived.Maps.OwnOps
import Derived.Maps.OwnSet
import Derived.Maps.Views
set_option linter.unusedVariables false
set_option linter.unusedSimpArgs false
namespace Go.Proofs.Ytbeniogffhihlaa
open Go.RowKit Go.Maps
namespace Rm
def prevTo (l : List RangeD) : Nat → List Int | 0 => [] | k + 1 => (l.getD k zeroR).2.2.1
def okAt (l : List RangeD) (k : Nat) (x : RangeD) : Bool := rightB x && decide (x.2.1 = prevTo l k) && (decide (x.2.2.1.length = 0) == decide (k + 1 = l.length))
def tableP (l : List RangeD) : Prop := 0 < l.length ∧ l.length ≤ 32 ∧ (∀ k x, l[k]? = some x → okAt l k x = true) ∧ (l.map (·.1)).Nodup
/-- what the map of ids says -/
def IdsOf (D : DataW Unit) (ks : List Int) : Prop := Tidy D ∧ (∀ k, has D (.int .i64 k) = decide (k ∈ ks)) ∧ size D ≤ ks.length ∧ (size D = ks.length ↔ ks.Nodup)
theorem IdsOf.nil : IdsOf (.map []) [] := ⟨tidy_empty, fun k => rfl, Nat.le_refl _, by simp [size_eq]⟩
theorem IdsOf.put {D : DataW Unit} {ks : List Int} (h : IdsOf D ks) (k : Int) (d : DataW Unit) : IdsOf (D.put (.int .i64 k) d) (ks ++ [k]) := by
  obtain ⟨h1, h2, h3, h4⟩ := h
  have hk : WideAt.IsKeyLit (.int .i64 k) := trivial
  have hs := size_put (k := .int .i64 k) h1 d
  rw [h2 k] at hs
  have hn : (ks ++ [k]).Nodup ↔ ks.Nodup ∧ k ∉ ks := by
    rw [List.nodup_append]
    constructor
    · intro ⟨a, _, c⟩
      exact ⟨a, fun hm => c k hm k (by simp) rfl⟩
    · intro ⟨a, b⟩
      exact ⟨a, by simp, fun x hx y hy e => b (by rw [List.mem_singleton] at hy; rw [← hy, ← e]; exact hx)⟩
  refine ⟨h1.put hk d, fun j => ?_, ?_, ?_⟩
  · by_cases hj : j = k
    · subst hj
      rw [has_put_same h1.isMap hk]
      simp
    · rw [has_put_other (by simpa using hj), h2 j]
      simp [hj]
  · rw [hs, List.length_append, List.length_singleton]
    split <;> omega
  · rw [hs, List.length_append, List.length_singleton, hn, ← h4]
    by_cases hm : k ∈ ks
    · simp only [hm, decide_true, if_true, not_true, and_false, iff_false]
      omega
    · simp only [hm, decide_false, Bool.false_eq_true, if_false, not_false_iff, and_true]
      omega
def IsTableP (l : List RangeD) (w : World) (e : Ending) (w' : World) : Prop := (tableP l → e = .returned (.bool true)) ∧ (¬ tableP l → e = .returned (.bool false)) ∧ Below w.heap.size w w'
theorem isTableP_no {l : List RangeD} {w w' : World} (h : ¬ tableP l) (hb : Below w.heap.size w w') : IsTableP l w (.returned (.bool false)) w' := ⟨fun h' => absurd h' h, fun _ => rfl, hb⟩
theorem below_grown {w w' : World} (h : Below w.heap.size w w') : w.grownBy w' none := ⟨h.os, h.tape, h.output, h.size, fun k hk _ => h.block k hk⟩
theorem rel_next {l : List RangeD} {w w3 : World} {k : Nat} {x : RangeD} {v : Value} {D : DataW Unit} {d : DataW Unit} (hk : k < l.length) (hx : l[k]? = some x) (hv : IsB w v x.2.2.1) (hall : ∀ j x, j < k → l[j]? = some x → okAt l j x = true) (hok : okAt l k x = true)
    (ho : w3.ownsMap Try.prog 3 (plainElem Try.prog 3) w.heap.size (k + 1) (D.put (.int .i64 x.1) d)) (hi : IdsOf D ((l.take k).map (·.1))) (hb : Below w.heap.size w w3) :
    ∃ (k' : Nat) (D' : DataW Unit), k' ≤ l.length ∧ (.int .i64 ((k : Int) + 1) : Value) = .int .i64 k' ∧ Hid (IsB w v (prevTo l k')) ∧ Hid (∀ j x, j < k' → l[j]? = some x → okAt l j x = true) ∧ Hid (w3.ownsMap Try.prog 3 (plainElem Try.prog 3) w.heap.size k' D') ∧ Hid (IdsOf D' ((l.take k').map (·.1))) ∧ Hid (Below w.heap.size w w3) := by
  refine ⟨k + 1, _, hk, by go_num, ?_, fun j y hj hy => ?_, ho, ?_, hb⟩
  · have e : prevTo l (k + 1) = x.2.2.1 := by
      show (l.getD k zeroR).2.2.1 = _
      rw [List.getD_eq_getElem?_getD, hx]; rfl
    show IsB w v (prevTo l (k + 1))
    rw [e]; exact hv
  · rcases Nat.lt_or_ge j k with h | h
    · exact hall j y h hy
    · have : j = k := by omega
      subst this
      rw [hx] at hy
      cases hy
      exact hok
  · rw [take_snoc hx, List.map_append, List.map_cons, List.map_nil]
    exact hi.put x.1 d
theorem zeroInt (w : World) : (zeroValue 3).run Try.prog w = .ok (.int .i64 0) w := by kernel_rfl
theorem lawInt : Keyed Try.prog 3 := int_keyed Try.underlying3
set_option maxRecDepth 100000 in
set_option maxHeartbeats 4000000 in
theorem isTable_any (v : Value) (l : List RangeD) (w : World) (h : IsRgs w v l) : Calls Try.prog 52 #[v] w (IsTableP l w) := by
  have hm := h.max
  obtain ⟨ao, cap, rfl, -, -, -⟩ := h.form
  have HB := Lib.hid h
  have hmm := @run_makeMap Try.prog
  clear h
  by_cases a1 : l.length = 0
  · have e1 : ((l.length : Int) == 0) = true := by rw [a1]; rfl
    have HN : Hid (¬ tableP l) := Lib.hid (fun h => by have := h.1; omega)
    clear a1
    go_enter Try.func52, Try.ntmps52
    go_wp2_with fail
    go_ret
    exact isTableP_no HN.out (by repeat' (first | (with_reducible exact Below.refl _ _) | (with_reducible assumption) | (with_reducible refine Below.drew ?_) | (with_reducible refine below_drewN ?_ _) | (with_reducible refine bel_alloc ?_ _) | (with_reducible refine Below.setCell ?_ ?_ _) | (with_reducible refine bel_call ?_ (by assumption)) | (simp <;> omega)))
  have e1 : ((l.length : Int) == 0) = false := beq_eq_false_iff_ne.2 (by omega)
  by_cases a2 : 32 < l.length
  · have e2 : decide ((32 : Int) < (l.length : Int)) = true := decide_eq_true (by omega)
    have HN : Hid (¬ tableP l) := Lib.hid (fun h => by have := h.2.1; omega)
    clear a2
    go_enter Try.func52, Try.ntmps52
    go_wp2_with fail
    go_ret
    exact isTableP_no HN.out (by repeat' (first | (with_reducible exact Below.refl _ _) | (with_reducible assumption) | (with_reducible refine Below.drew ?_) | (with_reducible refine below_drewN ?_ _) | (with_reducible refine bel_alloc ?_ _) | (with_reducible refine Below.setCell ?_ ?_ _) | (with_reducible refine bel_call ?_ (by assumption)) | (simp <;> omega)))
  have e2 : decide ((32 : Int) < (l.length : Int)) = false := decide_eq_false (by omega)
  have A1 := Lib.hid a1
  clear a1
  go_enter Try.func52, Try.ntmps52
  go_wp2_with fail
  have HM0 := Lib.hid (World.ownsMap_made w Try.prog 3 (plainElem (H := Unit) Try.prog 3))
  go_loopw [4, 19] (fun fv i wr => ∃ (k : Nat) (D : DataW Unit), k ≤ l.length ∧ i = .int .i64 k ∧ Hid (IsB w fv (prevTo l k)) ∧ Hid (∀ j x, j < k → l[j]? = some x → okAt l j x = true) ∧ Hid (wr.ownsMap Try.prog 3 (plainElem Try.prog 3) w.heap.size k D) ∧ Hid (IdsOf D ((l.take k).map (·.1))) ∧ Hid (Below w.heap.size w wr)) (fun _ i _ => l.length - (intOf i).toNat)
  case atStart => exact ⟨0, .map [], Nat.zero_le _, rfl, IsB.nil _, fun j x hj => absurd hj (Nat.not_lt_zero _), HM0.out, IdsOf.nil, (Below.refl _ _).alloc (Nat.le_refl _) _⟩
  case round =>
    obtain ⟨k, D, hk, rfl, hfrom, hall, hown, hids, hbel⟩ := hrel
    by_cases hlt : k < l.length
    · obtain ⟨b, o, x, fv, tv, hao, hbb, hx, c0', c1', c2', c3', hfv, htv, hI⟩ := IsRgs.at4 HB.out hlt
      subst hao
      have c0 := (hbel.out.cell (p := ⟨b, o + k * 4, none⟩) hbb).trans c0'
      have c1 := (hbel.out.cell (p := ⟨b, o + k * 4 + 1, none⟩) hbb).trans c1'
      have c2 := (hbel.out.cell (p := ⟨b, o + k * 4 + 2, none⟩) hbb).trans c2'
      have c3 := (hbel.out.cell (p := ⟨b, o + k * 4 + 3, none⟩) hbb).trans c3'
      obtain ⟨fo, fc, rfl, -, -, -⟩ := hfv.out.form
      obtain ⟨to, tc, rfl, -, -, -⟩ := htv.out.form
      obtain ⟨po, pc, rfl, -, -, -⟩ := hfrom.out.form
      have hl0 : (k : Int) < l.length := by omega
      have hl1 : 0 ≤ (k : Int) := by omega
      have hw1 := IntWalk.i64_in ((k : Int) + 1) (by omega)
      have hw2 := IntWalk.i64_in ((l.length : Int) - 1) (by omega)
      have zb := hown.out.lt
      have hwf : (Lit.int .i64 x.1).wf = true := by have := hI.out.1; unfold I64 at this; simp [Lit.wf, IntKind.min, IntKind.max, IntKind.signed, IntKind.bits]; omega
      have HKEY := Lib.hid (keyOf_int_mk (P := Try.prog) Try.underlying3 hwf)
      have HM1 := Lib.hid (hown.out.kept (w' := wr.alloc (.cells #[.int .i64 x.1, .slice fo x.2.1.length fc, .slice to x.2.2.1.length tc, .int .i64 x.2.2.2] 39)) (gb_alloc (gb_refl wr none) _) (by simp))
      have B0 := Lib.hid (hfv.out.below hbel.out); have B1 := Lib.hid (htv.out.below hbel.out)
      clear c0' c1' c2' c3' hwf
      go_wp2_with (first
        | (at_lookup; refine wpList_lookup_own_int _ rfl _ _ 114 rfl 3 3 .i64 lawInt Try.underlying114 Try.underlying3 (zeroInt _) w.heap.size k _ rfl HM1.out _ _ rfl HKEY.out ?_; intro cc hat hwc; clear hat hwc)
        | (at_mapUpdate; refine wpList_mapUpdate_own _ rfl _ _ _ 114 rfl 3 3 lawInt Try.underlying114 _ w.heap.size k _ rfl HM1.out (by unfold maxLen; omega) _ _ _ rfl rfl HKEY.out _ [] (plainElem_int Try.underlying3 (wrap64_wf _)) ?_; intro w2 hown2 hg2; have HO2 := Lib.hid hown2; have HG2 := Lib.hid hg2; have zw2 : wr.heap.size < w2.heap.size := (by have := hg2.size; simp at this; omega); have d0 : w2.cell? ⟨wr.heap.size, 0, none⟩ = some (.int .i64 x.1) := (gb_cell hg2 (b := wr.heap.size) (o := 0) (by simp) (by omega)).trans (by go_simp); have d1 : w2.cell? ⟨wr.heap.size, 1, none⟩ = some (.slice fo x.2.1.length fc) := (gb_cell hg2 (b := wr.heap.size) (o := 1) (by simp) (by omega)).trans (by go_simp); have d2 : w2.cell? ⟨wr.heap.size, 2, none⟩ = some (.slice to x.2.2.1.length tc) := (gb_cell hg2 (b := wr.heap.size) (o := 2) (by simp) (by omega)).trans (by go_simp); have d3 : w2.cell? ⟨wr.heap.size, 3, none⟩ = some (.int .i64 x.2.2.2) := (gb_cell hg2 (b := wr.heap.size) (o := 3) (by simp) (by omega)).trans (by go_simp); clear hown2 hg2))
      have G2 : Hid (Below w.heap.size w w2) := Lib.hid (bel_grown (bel_alloc hbel.out _) HG2.out (Nat.le_refl _))
      have HNO : Hid (okAt l k x = false → ¬ tableP l) := Lib.hid (fun h h' => by have := h'.2.2.1 k x hx.out; rw [h] at this; exact absurd this (by decide))
      have hok : okAt l k x = (rightB x && decide (x.2.1 = prevTo l k) && (decide (x.2.2.1.length = 0) == decide (k + 1 = l.length))) := rfl
      have HEQ := fun w' (hb : Below w2.heap.size w2 w') => bytesEqual_any _ _ x.2.1 (prevTo l k) w' (hfv.out.below (bel_call G2.out hb)) (hfrom.out.below (bel_call G2.out hb))
      have HE := Lib.hid HEQ
      have HR : Hid (Calls Try.prog _ _ w2 (Ret (.bool (rightB x)) w2)) := Lib.hid (right_any _ _ x.1 x.2.2.2 x.2.1 x.2.2.1 w2 (hfv.out.below G2.out) (htv.out.below G2.out))
      have lm1 : (k : Int) + 1 ≤ l.length := by omega
      clear HEQ hw1
      cases hR : rightB x
      · rw [hR] at HR hok
        have HF : Hid (¬ tableP l) := Lib.hid (HNO.out (by rw [hok]; rfl))
        clear hok hR
        refine HR.out.mono ?_
        rintro e w3 ⟨rfl, hb⟩
        have G3 := Lib.hid (bel_call G2.out hb)
        clear hb
        go_wp2_with fail
        go_ret
        exact isTableP_no HF.out G3.out
      · rw [hR] at HR hok
        clear hR
        refine HR.out.mono ?_
        rintro e w3 ⟨rfl, hb⟩
        have G3 := Lib.hid (bel_call G2.out hb)
        have HE3 := Lib.hid (HE.out w3 hb)
        have zw3 : wr.heap.size < w3.heap.size := by have := hb.size; omega
        replace d0 := (hb.cell (p := ⟨wr.heap.size, 0, none⟩) zw2).trans d0
        replace d1 := (hb.cell (p := ⟨wr.heap.size, 1, none⟩) zw2).trans d1
        replace d2 := (hb.cell (p := ⟨wr.heap.size, 2, none⟩) zw2).trans d2
        have HO3 := Lib.hid (HO2.out.kept (row := none) (below_grown hb) (by simp))
        clear hb d3
        have hw1 := IntWalk.i64_in ((k : Int) + 1) (by omega)
        by_cases hE : x.2.1 = prevTo l k
        · rw [decide_eq_true hE] at HE3 hok
          clear hE
          by_cases h1 : x.2.2.1.length = 0
          · have f1 : ((x.2.2.1.length : Int) == 0) = true := by rw [h1]; rfl
            by_cases h2 : k + 1 = l.length
            · have f2 : ((k : Int) == (l.length : Int) - 1) = true := beq_iff_eq.2 (by omega)
              have HOK : Hid (okAt l k x = true) := Lib.hid (by rw [hok, decide_eq_true h1, decide_eq_true h2]; rfl)
              clear hok h1 h2
              go_wp2_with fail
              refine HE3.out.mono ?_
              rintro e w4 ⟨rfl, rfl⟩
              go_wp2_with fail
              go_roundw
              case rel => exact rel_next hlt hx.out htv.out hall.out HOK.out HO3.out hids.out G3.out
              case measure => simp [intOf]; omega
            · have f2 : ((k : Int) == (l.length : Int) - 1) = false := beq_eq_false_iff_ne.2 (by omega)
              have HF : Hid (¬ tableP l) := Lib.hid (HNO.out (by rw [hok, decide_eq_true h1, decide_eq_false h2]; rfl))
              clear hok h1 h2
              go_wp2_with fail
              refine HE3.out.mono ?_
              rintro e w4 ⟨rfl, rfl⟩
              go_wp2_with fail
              go_ret
              exact isTableP_no HF.out G3.out
          · have f1 : ((x.2.2.1.length : Int) == 0) = false := beq_eq_false_iff_ne.2 (by omega)
            by_cases h2 : k + 1 = l.length
            · have f2 : ((k : Int) == (l.length : Int) - 1) = true := beq_iff_eq.2 (by omega)
              have HF : Hid (¬ tableP l) := Lib.hid (HNO.out (by rw [hok, decide_eq_false h1, decide_eq_true h2]; rfl))
              clear hok h1 h2
              go_wp2_with fail
              refine HE3.out.mono ?_
              rintro e w4 ⟨rfl, rfl⟩
              go_wp2_with fail
              go_ret
              exact isTableP_no HF.out G3.out
            · have f2 : ((k : Int) == (l.length : Int) - 1) = false := beq_eq_false_iff_ne.2 (by omega)
              have HOK : Hid (okAt l k x = true) := Lib.hid (by rw [hok, decide_eq_false h1, decide_eq_false h2]; rfl)
              clear hok h1 h2
              go_wp2_with fail
              refine HE3.out.mono ?_
              rintro e w4 ⟨rfl, rfl⟩
              go_wp2_with fail
              go_roundw
              case rel => exact rel_next hlt hx.out htv.out hall.out HOK.out HO3.out hids.out G3.out
              case measure => simp [intOf]; omega
        · rw [decide_eq_false hE] at HE3 hok
          have HF : Hid (¬ tableP l) := Lib.hid (HNO.out (by rw [hok]; rfl))
          clear hok hE
          go_wp2_with fail
          refine HE3.out.mono ?_
          rintro e w4 ⟨rfl, rfl⟩
          go_wp2_with fail
          go_ret
          exact isTableP_no HF.out G3.out
    · have hkl : k = l.length := by omega
      subst hkl
      have HL : Hid (tableP l ↔ size D = l.length) := Lib.hid (by
        have h4 := hids.out.2.2.2
        rw [List.take_length, List.length_map] at h4
        constructor
        · intro h; exact h4.2 h.2.2.2
        · intro h; exact ⟨by have := A1.out; omega, by omega, fun j x hx => hall.out j x (List.getElem?_eq_some_iff.1 hx).1 hx, h4.1 h⟩)
      have HOW := Lib.hid hown.out
      by_cases hs : size D = l.length
      · have f1 : ((size D : Int) == (l.length : Int)) = true := beq_iff_eq.2 (by omega)
        have HT := Lib.hid (HL.out.2 hs)
        clear hs
        go_wp2_with (at_len; refine wpList_len_own (w := wr) rfl (.tmp 58) 114 rfl 3 3 Try.underlying114 _ w.heap.size _ D rfl HOW.out ?_)
        go_ret
        exact ⟨fun _ => rfl, fun h => absurd HT.out h, hbel.out⟩
      · have f1 : ((size D : Int) == (l.length : Int)) = false := beq_eq_false_iff_ne.2 (by omega)
        have HT := Lib.hid (fun h => hs (HL.out.1 h))
        clear hs
        go_wp2_with (at_len; refine wpList_len_own (w := wr) rfl (.tmp 58) 114 rfl 3 3 Try.underlying114 _ w.heap.size _ D rfl HOW.out ?_)
        go_ret
        exact isTableP_no HT.out hbel.out
end Rm
end Go.Proofs.Ytbeniogffhihlaa
