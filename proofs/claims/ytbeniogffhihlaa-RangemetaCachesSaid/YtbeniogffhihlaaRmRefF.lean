/- rangemeta: the document's New, Find, Split. -/
import Derived.Test.YtbeniogffhihlaaRmRefC
set_option linter.unusedVariables false
set_option linter.unusedSimpArgs false
namespace Go.Proofs.Ytbeniogffhihlaa
open Go.RowKit
namespace Rm
/-- a row of ranges of the call's own, whose bytes stand in the world w0 -/
def RowB (w0 : World) (base : Nat) (w : World) (v : Value) (l : List RangeD) : Prop := ∃ rs : List RV, rs.map (·.1) = l ∧ w.ownsRow base 39 4 v l.length (rs.flatMap cells4) ∧ ∀ r ∈ rs, IsB w0 r.2.1 r.1.2.1 ∧ IsB w0 r.2.2 r.1.2.2.1 ∧ I64 r.1.1 ∧ I64 r.1.2.2.2
theorem RowB.isRgs {w0 w : World} {base : Nat} {v : Value} {l : List RangeD} (h : RowB w0 base w v l) (hb : Below w0.heap.size w0 w) : IsRgs w v l := by
  obtain ⟨rs, rfl, ho, hg⟩ := h
  obtain ⟨ao, cap, rfl, h1, h2, h3, h4⟩ := own_form ho
  refine ⟨ao, cap, rfl, h1, by unfold maxLen; omega, fun hn => ⟨List.eq_nil_of_length_eq_zero (h3 hn).1, (h3 hn).2⟩, fun i x hx => ?_⟩
  rw [List.getElem?_map, Option.map_eq_some_iff] at hx
  obtain ⟨r, hr, rfl⟩ := hx
  have hrm := List.mem_of_getElem? hr
  have hc : ∀ j u, (cells4 r)[j]? = some u → (rs.flatMap cells4)[i * 4 + j]? = some u := fun j u hu => by
    rw [flat_get cells4_len rs i j r hr (by have := (List.getElem?_eq_some_iff.1 hu).1; rwa [cells4_len] at this)]; exact hu
  obtain ⟨g, hao, hbg, hgl, hcell⟩ := own_cell ho (hc 0 _ rfl)
  subst hao
  refine ⟨g, 0, cells4 r, rfl, hgl, rfl, fun j u hu => ?_, r.2.1, r.2.2, rfl, (hg r hrm).1.below hb, (hg r hrm).2.1.below hb, (hg r hrm).2.2⟩
  rw [Nat.zero_add]
  exact own_cell' ho (hc j u hu)
theorem RowB.below {w0 w w1 : World} {base : Nat} {v : Value} {l : List RangeD} (h : RowB w0 base w v l) (k : Below w.heap.size w w1) : RowB w0 base w1 v l := by
  obtain ⟨rs, h1, h2, h3⟩ := h
  exact ⟨rs, h1, own_below h2 k, h3⟩
theorem RowB.mono {w0 w : World} {base b' : Nat} {v : Value} {l : List RangeD} (h : RowB w0 base w v l) (k : b' ≤ base) : RowB w0 b' w v l := by
  obtain ⟨rs, h1, h2, h3⟩ := h
  exact ⟨rs, h1, own_mono h2 k, h3⟩
theorem RowB.slice {w0 w : World} {base : Nat} {v : Value} {l : List RangeD} (h : RowB w0 base w v l) (hl : l ≠ []) : ∃ g cap, v = .slice (some ⟨g, 0, none⟩) l.length cap := by
  obtain ⟨rs, -, ho, -⟩ := h
  exact own_nonzero ho (fun h0 => hl (List.eq_nil_of_length_eq_zero h0))
theorem RowB.at_ {w0 w : World} {base g n cap k : Nat} {l : List RangeD} {r : RangeD} (h : RowB w0 base w (.slice (some ⟨g, 0, none⟩) n cap) l) (hr : l[k]? = some r) :
    ∃ fv tv, w.cell? ⟨g, k * 4, none⟩ = some (.int .i64 r.1) ∧ w.cell? ⟨g, k * 4 + 1, none⟩ = some fv ∧ w.cell? ⟨g, k * 4 + 2, none⟩ = some tv ∧ w.cell? ⟨g, k * 4 + 3, none⟩ = some (.int .i64 r.2.2.2) ∧ Hid (IsB w0 fv r.2.1) ∧ Hid (IsB w0 tv r.2.2.1) ∧ base ≤ g ∧ g < w.heap.size := by
  obtain ⟨rs, rfl, ho, hg⟩ := h
  rw [List.getElem?_map, Option.map_eq_some_iff] at hr
  obtain ⟨s, hs, rfl⟩ := hr
  have hc : ∀ j u, (cells4 s)[j]? = some u → (rs.flatMap cells4)[k * 4 + j]? = some u := fun j u hu => by
    rw [flat_get cells4_len rs k j s hs (by have := (List.getElem?_eq_some_iff.1 hu).1; rwa [cells4_len] at this)]; exact hu
  have hn : n = (rs.map (·.1)).length := by
    rcases ho.2 with ⟨hv, -⟩ | ⟨_, _, _, hv, -⟩
    · cases hv
    · simp only [Value.slice.injEq] at hv; exact hv.2.1
  subst hn
  obtain ⟨h1, h2, -⟩ := hg s (List.mem_of_getElem? hs)
  exact ⟨s.2.1, s.2.2, own_cell' ho (hc 0 _ rfl), own_cell' ho (hc 1 _ rfl), own_cell' ho (hc 2 _ rfl), own_cell' ho (hc 3 _ rfl), h1, h2, own_lt ho⟩
def RNewP (w : World) (e : Ending) (w' : World) : Prop := e = .returned (.slice (some ⟨w.heap.size, 0, none⟩) 1 1) ∧ RowB w w.heap.size w' (.slice (some ⟨w.heap.size, 0, none⟩) 1 1) [(1, [], [], 1)] ∧ Below w.heap.size w w'
set_option maxRecDepth 100000 in
set_option maxHeartbeats 1000000 in
theorem rNew_any (w : World) : Calls Try.prog 12 #[] w (RNewP w) := by
  go_enter Try.func12, Try.ntmps12
  go_wp2_with fail
  go_ret
  refine ⟨rfl, ⟨[((1, [], [], 1), .slice none 0 0, .slice none 0 0)], rfl, ⟨rfl, .inr ⟨w.heap.size, 1, #[.int .i64 1, .slice none 0 0, .slice none 0 0, .int .i64 1], rfl, Nat.le_refl _, heap_alloc_new w _, Nat.le_refl _, by simp [maxLen], rfl, rfl⟩⟩, fun r hr => ?_⟩, (Below.refl _ _).alloc (Nat.le_refl _) _⟩
  rw [List.mem_singleton] at hr
  subst hr
  exact ⟨IsB.nil w, IsB.nil w, by unfold I64; simp, by unfold I64; simp⟩
def RFindP (w : World) (r : RangeD) (b : Bool) (e : Ending) (w' : World) : Prop := ∃ fv tv, e = .returned (.tuple #[.agg #[.int .i64 r.1, fv, tv, .int .i64 r.2.2.2], .bool b]) ∧ IsB w' fv r.2.1 ∧ IsB w' tv r.2.2.1 ∧ Below w.heap.size w w'
theorem findF_at {l : List RangeD} {k : Nat} {x : RangeD} {key : List Int} (hx : l[k]? = some x) (h : ∀ y ∈ l.take k, holdsB (y.2.1, y.2.2.1) key = false) (hp : holdsB (x.2.1, x.2.2.1) key = true) : findF l key = some x := by
  unfold findF
  rw [List.find?_eq_some_iff_getElem]
  obtain ⟨hk, rfl⟩ := List.getElem?_eq_some_iff.1 hx
  refine ⟨hp, k, hk, rfl, fun j hj => ?_⟩
  have := h _ (List.mem_take_iff_getElem.2 ⟨j, by omega, rfl⟩)
  simpa using this
set_option maxRecDepth 100000 in
set_option maxHeartbeats 4000000 in
theorem rFind_any (v kv : Value) (l : List RangeD) (key : List Int) (w : World) (h : IsRgs w v l) (hk : IsB w kv key) :
    Calls Try.prog 18 #[v, kv] w (RFindP w ((findF l key).getD zeroR) (findF l key).isSome) := by
  have hm := h.max
  obtain ⟨ao, cap, rfl, -, -, -⟩ := h.form
  obtain ⟨ko, kc, rfl, -, -, -⟩ := hk.form
  have HB := Lib.hid h
  have HK := Lib.hid hk
  clear h hk
  go_enter Try.func18, Try.ntmps18
  go_wp2_with fail
  have P0 : Hid (∀ j u, [Value.int .i64 0, .slice none 0 0, .slice none 0 0, .int .i64 0][j]? = some u → (w.alloc (.cells #[.int .i64 0, .slice none 0 0, .slice none 0 0, .int .i64 0] 39)).cell? ⟨w.heap.size, j, none⟩ = some u ∧ (w.alloc (.cells #[.int .i64 0, .slice none 0 0, .slice none 0 0, .int .i64 0] 39)).frozen? ⟨w.heap.size, j, none⟩ = false) := Lib.hid (fun j u hu => by
    match j, hu with
    | 0, hu => cases hu; exact ⟨by go_simp, by go_simp⟩
    | 1, hu => cases hu; exact ⟨by go_simp, by go_simp⟩
    | 2, hu => cases hu; exact ⟨by go_simp, by go_simp⟩
    | 3, hu => cases hu; exact ⟨by go_simp, by go_simp⟩)
  have hsz : (w.alloc (.cells #[.int .i64 0, .slice none 0 0, .slice none 0 0, .int .i64 0] 39)).heap.size = w.heap.size + 1 := by simp
  have hbw : Below w.heap.size w (w.alloc (.cells #[.int .i64 0, .slice none 0 0, .slice none 0 0, .int .i64 0] 39)) := (Below.refl _ w).alloc (Nat.le_refl _) _
  generalize w.alloc (.cells #[.int .i64 0, .slice none 0 0, .slice none 0 0, .int .i64 0] 39) = W at *
  have HSZ := Lib.hid hsz
  have HBW := Lib.hid hbw
  clear hsz hbw
  go_loopw [6] (fun i wr => ∃ k : Nat, k ≤ l.length ∧ i = .int .i64 k ∧ Hid (∀ y ∈ l.take k, holdsB (y.2.1, y.2.2.1) key = false) ∧ Hid (Below W.heap.size W wr)) (fun i _ => l.length - (intOf i).toNat)
  case atStart => exact ⟨0, Nat.zero_le _, rfl, (fun y hy => by simp at hy), Below.refl _ _⟩
  case round =>
    obtain ⟨k, hk, rfl, hall, hbelW⟩ := hrel
    have hbel : Hid (Below w.heap.size w wr) := Lib.hid (bel_call HBW.out hbelW.out)
    have zw : w.heap.size < W.heap.size := by have := HSZ.out; omega
    have zr : w.heap.size < wr.heap.size := by have := hbelW.out.size; omega
    by_cases hlt : k < l.length
    · obtain ⟨b, o, x, fv, tv, hao, hbb, hx, c0', c1', c2', c3', hfv, htv, hI⟩ := IsRgs.at4 HB.out hlt
      subst hao
      have c1 := (hbel.out.cell (p := ⟨b, o + k * 4 + 1, none⟩) hbb).trans c1'
      have c2 := (hbel.out.cell (p := ⟨b, o + k * 4 + 2, none⟩) hbb).trans c2'
      obtain ⟨fo, fc, rfl, -, -, -⟩ := hfv.out.form
      obtain ⟨to, tc, rfl, -, -, -⟩ := htv.out.form
      have C0 := Lib.hid c0'; have C1 := Lib.hid c1'; have C2 := Lib.hid c2'; have C3 := Lib.hid c3'
      have hl0 : (k : Int) < l.length := by omega
      have hl1 : 0 ≤ (k : Int) := by omega
      have HIN := Lib.hid (rIn_any _ _ _ x.2.1 x.2.2.1 key wr (hfv.out.below hbel.out) (htv.out.below hbel.out) (HK.out.below hbel.out))
      clear c0' c1' c2' c3'
      go_wp2_with fail
      refine HIN.out.mono ?_
      rintro e w2 ⟨rfl, hb⟩
      have G2 : Hid (Below w.heap.size w w2) := Lib.hid (bel_call hbel.out hb)
      have GW2 : Hid (Below W.heap.size W w2) := Lib.hid (bel_call hbelW.out hb)
      clear hb c1 c2
      cases hh : holdsB (x.2.1, x.2.2.1) key
      · have HN : Hid (∀ y ∈ l.take (k + 1), holdsB (y.2.1, y.2.2.1) key = false) := Lib.hid (fun y hy => by
          rw [take_snoc hx.out] at hy
          rcases List.mem_append.1 hy with hy | hy
          · exact hall.out y hy
          · rw [List.mem_singleton] at hy; subst hy; exact hh)
        have hw1 := IntWalk.i64_in ((k : Int) + 1) (by omega)
        go_wp2_with fail
        go_roundw
        case rel => exact ⟨k + 1, by omega, by go_num, HN.out, GW2.out⟩
        case measure => simp [intOf]; omega
      · have HF := Lib.hid (findF_at hx.out hall.out hh)
        have c0 := (G2.out.cell (p := ⟨b, o + k * 4, none⟩) hbb).trans C0.out
        have c1 := (G2.out.cell (p := ⟨b, o + k * 4 + 1, none⟩) hbb).trans C1.out
        have c2 := (G2.out.cell (p := ⟨b, o + k * 4 + 2, none⟩) hbb).trans C2.out
        have c3 := (G2.out.cell (p := ⟨b, o + k * 4 + 3, none⟩) hbb).trans C3.out
        have p0 := (GW2.out.cell (p := ⟨w.heap.size, 0, none⟩) zw).trans (P0.out 0 _ rfl).1
        have p1 := (GW2.out.cell (p := ⟨w.heap.size, 1, none⟩) zw).trans (P0.out 1 _ rfl).1
        have p2 := (GW2.out.cell (p := ⟨w.heap.size, 2, none⟩) zw).trans (P0.out 2 _ rfl).1
        have p3 := (GW2.out.cell (p := ⟨w.heap.size, 3, none⟩) zw).trans (P0.out 3 _ rfl).1
        have f0 := (GW2.out.frozen (p := ⟨w.heap.size, 0, none⟩) zw).trans (P0.out 0 _ rfl).2
        have f1 := (GW2.out.frozen (p := ⟨w.heap.size, 1, none⟩) zw).trans (P0.out 1 _ rfl).2
        have f2 := (GW2.out.frozen (p := ⟨w.heap.size, 2, none⟩) zw).trans (P0.out 2 _ rfl).2
        have f3 := (GW2.out.frozen (p := ⟨w.heap.size, 3, none⟩) zw).trans (P0.out 3 _ rfl).2
        go_wp2_with fail
        rw [HF.out]
        have hsame := (((G2.out.setCell (p := ⟨w.heap.size, 0, none⟩) (by simp only; omega) (.int .i64 x.1)).setCell (p := ⟨w.heap.size, 1, none⟩) (by simp only; omega) (.slice fo x.2.1.length fc)).setCell (p := ⟨w.heap.size, 2, none⟩) (by simp only; omega) (.slice to x.2.2.1.length tc)).setCell (p := ⟨w.heap.size, 3, none⟩) (by simp only; omega) (.int .i64 x.2.2.2)
        refine bodyPost_ret (v := .tuple #[.agg #[.int .i64 x.1, .slice fo x.2.1.length fc, .slice to x.2.2.1.length tc, .int .i64 x.2.2.2], .bool true]) (by simp [results, Try.results18, go_sem]; go_simp) rfl ⟨_, _, rfl, hfv.out.below hsame, htv.out.below hsame, hsame⟩
    · have hkl : k = l.length := by omega
      subst hkl
      have HF : Hid (findF l key = none) := Lib.hid (by
        unfold findF
        rw [List.find?_eq_none]
        intro x hx
        have := hall.out x (by rw [List.take_length]; exact hx)
        simpa using this)
      have p0 := (hbelW.out.cell (p := ⟨w.heap.size, 0, none⟩) zw).trans (P0.out 0 _ rfl).1
      have p1 := (hbelW.out.cell (p := ⟨w.heap.size, 1, none⟩) zw).trans (P0.out 1 _ rfl).1
      have p2 := (hbelW.out.cell (p := ⟨w.heap.size, 2, none⟩) zw).trans (P0.out 2 _ rfl).1
      have p3 := (hbelW.out.cell (p := ⟨w.heap.size, 3, none⟩) zw).trans (P0.out 3 _ rfl).1
      have f0 := (hbelW.out.frozen (p := ⟨w.heap.size, 0, none⟩) zw).trans (P0.out 0 _ rfl).2
      have f1 := (hbelW.out.frozen (p := ⟨w.heap.size, 1, none⟩) zw).trans (P0.out 1 _ rfl).2
      have f2 := (hbelW.out.frozen (p := ⟨w.heap.size, 2, none⟩) zw).trans (P0.out 2 _ rfl).2
      have f3 := (hbelW.out.frozen (p := ⟨w.heap.size, 3, none⟩) zw).trans (P0.out 3 _ rfl).2
      go_wp2_with fail
      rw [HF.out]
      refine bodyPost_ret (v := .tuple #[.agg #[.int .i64 0, .slice none 0 0, .slice none 0 0, .int .i64 0], .bool false]) (by simp [results, Try.results18, go_sem]; go_simp) rfl ⟨_, _, rfl, IsB.nil _, IsB.nil _, ?_⟩
      exact (((hbel.out.setCell (p := ⟨w.heap.size, 0, none⟩) (by simp only; omega) _).setCell (p := ⟨w.heap.size, 1, none⟩) (by simp only; omega) _).setCell (p := ⟨w.heap.size, 2, none⟩) (by simp only; omega) _).setCell (p := ⟨w.heap.size, 3, none⟩) (by simp only; omega) _
end Rm
end Go.Proofs.Ytbeniogffhihlaa
