/- memtable: a place is found (walk). -/
import Derived.Test.YtgkgfghmpimaoaaMt4
import Derived.ScopeJumps
import Derived.WalkMore
set_option linter.unusedVariables false
set_option linter.unusedSimpArgs false
namespace Go.Proofs.Ytgkgfghmpimaoaa
open Go.RowKit
namespace Mt
theorem TabI.cells {S : Nat → Prop} {w : World} {tb : Nat} {hs : List Int} {hd : Nd} {L : List Nd} (h : TabI S w tb hs hd L) :
    w.cell? ⟨tb, 1, none⟩ = some (.pointer (some ⟨hd.b, 0, none⟩)) ∧ w.cell? ⟨tb, 2, none⟩ = some (.int .i64 L.length) ∧ w.cell? ⟨tb, 3, none⟩ = some (.int .i64 (bytesE (L.map (·.x)))) ∧ tb < w.heap.size := by
  obtain ⟨hv, h1, -, -⟩ := h.obj
  exact ⟨by rw [cell_of_row _ _ _ _ _ _ h1]; rfl, by rw [cell_of_row _ _ _ _ _ _ h1]; rfl, by rw [cell_of_row _ _ _ _ _ _ h1]; rfl, (Array.getElem?_eq_some_iff.1 h1).1⟩
theorem NdI.cells {S : Nat → Prop} {w : World} {n : Nd} (h : NdI S w n) :
    w.cell? ⟨n.b, 0, none⟩ = some n.kv ∧ w.cell? ⟨n.b, 1, none⟩ = some (.int .u64 n.x.2.1) ∧ w.cell? ⟨n.b, 2, none⟩ = some (.bool n.x.2.2.1) ∧ w.cell? ⟨n.b, 3, none⟩ = some n.vv ∧ w.cell? ⟨n.b, 4, none⟩ = some (.slice (some ⟨n.r, 0, none⟩) n.h n.h) ∧ n.b < w.heap.size :=
  ⟨by rw [cell_of_row _ _ _ _ _ _ h.obj]; rfl, by rw [cell_of_row _ _ _ _ _ _ h.obj]; rfl, by rw [cell_of_row _ _ _ _ _ _ h.obj]; rfl, by rw [cell_of_row _ _ _ _ _ _ h.obj]; rfl, by rw [cell_of_row _ _ _ _ _ _ h.obj]; rfl, (Array.getElem?_eq_some_iff.1 h.obj).1⟩
/-- where the search stands behind level j -/
def behL (hts : List Nat) (pos j : Nat) : Nat := (lvl hts pos (12 - j)).2
def hts (L : List Nd) : List Nat := L.map (·.h)
def behB (hd : Nd) (L : List Nd) (pos j : Nat) : Nat := ((hd :: L).getD (behL (hts L) pos j) hd).b
abbrev behV (hd : Nd) (L : List Nd) (pos j : Nat) : Value := .pointer (some ⟨behB hd L pos j, 0, none⟩)
def behA (hd : Nd) (L : List Nd) (pos : Nat) : List Value := (List.range 12).map (behV hd L pos)
/-- a scope with a label: up to the label, then round after round -/
theorem wp_scope_into {P : Program} {a : Act} {w : World} {Q : Exit → Act → World → Prop} {c rest : Code} (l : Nat) (J : Act → World → Prop) (μ : Act → World → Nat) (hf : findLabel c l = some (.seq .skip rest))
    (first : ∀ Q', (∀ a w, J a w → rest.wp P Q' a w) → c.wp P Q' a w)
    (pass : ∀ a w, J a w → rest.wp P (Exit.jump l (fun a' w' => J a' w' ∧ μ a' w' < μ a w) Q) a w) : (Code.scope c).wp P Q a w :=
  wp_scope_jumps l J μ hf (first _ fun a w h => wp_mono (pass a w h) (fun e a' w' h' => by
    cases e <;> first | exact h' | exact ⟨h'.1, h'.2.1⟩)) (fun a w h => wp_seq (wp_skip (pass a w h)))
/-- what the search keeps -/
structure BehI (hd : Nd) (L : List Nd) (pos : Nat) (w w' : World) (m : Nat) : Prop where
  bel : Below w.heap.size w w'
  res : w'.heap[w.heap.size]? = some (.cells #[.pointer none, .pointer none, .pointer none, .pointer none, .pointer none, .pointer none, .pointer none, .pointer none, .pointer none, .pointer none, .pointer none, .pointer none] 63 (0, 0))
  beh : ∃ cur, w'.heap[w.heap.size + 1]? = some (.cells cur 63 (0, 0)) ∧ cur.size = 12 ∧ ∀ i, m ≤ i → i < 12 → cur[i]? = some (behV hd L pos i)
def PlaceP (hd : Nd) (L : List Nd) (pos : Nat) (w : World) (e : Ending) (w' : World) : Prop :=
  e = .returned (.tuple #[.agg #[.pointer (some ⟨behB hd L pos 0, 0, none⟩), .pointer (some ⟨behB hd L pos 1, 0, none⟩), .pointer (some ⟨behB hd L pos 2, 0, none⟩), .pointer (some ⟨behB hd L pos 3, 0, none⟩), .pointer (some ⟨behB hd L pos 4, 0, none⟩), .pointer (some ⟨behB hd L pos 5, 0, none⟩), .pointer (some ⟨behB hd L pos 6, 0, none⟩), .pointer (some ⟨behB hd L pos 7, 0, none⟩), .pointer (some ⟨behB hd L pos 8, 0, none⟩), .pointer (some ⟨behB hd L pos 9, 0, none⟩), .pointer (some ⟨behB hd L pos 10, 0, none⟩), .pointer (some ⟨behB hd L pos 11, 0, none⟩)], .int .i64 (lvl (hts L) pos 12).1]) ∧ Below w.heap.size w w'
/-- how many entries stand ahead of a place -/
def Pos (l : List En) (key : List Int) (seq : Int) (pos : Nat) : Prop := pos ≤ l.length ∧ ∀ i x, l[i]? = some x → aheadB x key seq = decide (i < pos)
def AtI (hd : Nd) (L : List Nd) (pos j k n : Nat) (nd : Nd) : Prop := (hd :: L)[k]? = some nd ∧ n + (scanL j pos ((hts L).drop k) k k).1 = (lvl (hts L) pos (12 - j)).1 ∧ (scanL j pos ((hts L).drop k) k k).2 = behL (hts L) pos j
theorem BehI.cells {hd : Nd} {L : List Nd} {pos m : Nat} {w w' : World} (h : BehI hd L pos w w' m) : (∀ i, i < 12 → ∃ v, w'.cell? ⟨w.heap.size + 1, i, none⟩ = some v) ∧ (∀ i, w'.frozen? ⟨w.heap.size + 1, i, none⟩ = false) ∧ (∀ i, m ≤ i → i < 12 → w'.cell? ⟨w.heap.size + 1, i, none⟩ = some (behV hd L pos i)) ∧ (∀ i, i < 12 → w'.cell? ⟨w.heap.size, i, none⟩ = some (.pointer none)) ∧ (∀ i, w'.frozen? ⟨w.heap.size, i, none⟩ = false) := by
  obtain ⟨cur, h1, h2, h3⟩ := h.beh
  refine ⟨fun i hi => ⟨cur[i], ?_⟩, fun i => frozen_of_row _ _ _ _ _ h1, fun i h4 h5 => ?_, fun i hi => ?_, fun i => frozen_of_row _ _ _ _ _ h.res⟩
  · rw [cell_of_row _ _ _ _ _ _ h1, Array.getElem?_eq_getElem (by omega)]
  · rw [cell_of_row _ _ _ _ _ _ h1, h3 i h4 h5]
  · rw [cell_of_row _ _ _ _ _ _ h.res]
    rcases (by omega : i = 0 ∨ i = 1 ∨ i = 2 ∨ i = 3 ∨ i = 4 ∨ i = 5 ∨ i = 6 ∨ i = 7 ∨ i = 8 ∨ i = 9 ∨ i = 10 ∨ i = 11) with h | h | h | h | h | h | h | h | h | h | h | h <;> subst h <;> rfl
theorem BehI.call {hd : Nd} {L : List Nd} {pos m : Nat} {w w' w1 : World} (h : BehI hd L pos w w' m) (hb : Below w'.heap.size w' w1) : BehI hd L pos w w1 m := by
  obtain ⟨cur, h1, h2, h3⟩ := h.beh
  exact ⟨bel_call h.bel hb, (hb.block _ (Array.getElem?_eq_some_iff.1 h.res).1).trans h.res, cur, (hb.block _ (Array.getElem?_eq_some_iff.1 h1).1).trans h1, h2, h3⟩
theorem BehI.set {hd : Nd} {L : List Nd} {pos j : Nat} {w w' : World} {v : Value} (h : BehI hd L pos w w' (j + 1)) (hj : j < 12) (hv : v = behV hd L pos j) : BehI hd L pos w (w'.setCell ⟨w.heap.size + 1, j, none⟩ v) j := by
  obtain ⟨cur, h1, h2, h3⟩ := h.beh
  refine ⟨h.bel.setCell (p := ⟨w.heap.size + 1, j, none⟩) (by simp) _, ?_, cur.setIfInBounds j v, heap_setCell_same _ _ _ _ _ _ h1, by simpa using h2, fun i hi hi2 => ?_⟩
  · rw [Below.heap_setCell _ _ _ _ (by simp)]
    exact h.res
  · by_cases hij : j = i
    · subst hij
      rw [Array.getElem?_setIfInBounds_self_of_lt (by omega), hv]
    · rw [Array.getElem?_setIfInBounds_ne hij]
      exact h3 i (by omega) hi2
theorem lvl_down (hts : List Nat) (pos : Nat) {j : Nat} (h0 : 0 < j) (hj : j < 12) : lvl hts pos (12 - (j - 1)) = ((lvl hts pos (12 - j)).1 + (scanL (j - 1) pos (hts.drop (behL hts pos j)) (behL hts pos j) (behL hts pos j)).1, (scanL (j - 1) pos (hts.drop (behL hts pos j)) (behL hts pos j) (behL hts pos j)).2) := by
  have e : 12 - (j - 1) = (12 - j) + 1 := by omega
  rw [e, lvl, show 11 - (12 - j) = j - 1 by omega]
  rfl
theorem AtI.down {hd : Nd} {L : List Nd} {pos j k n : Nat} {nd : Nd} (hk : (hd :: L)[k]? = some nd) (hn : n = (lvl (hts L) pos (12 - j)).1) (ha : k = behL (hts L) pos j) (h0 : 0 < j) (hj : j < 12) : AtI hd L pos (j - 1) k n nd := by
  refine ⟨hk, ?_, ?_⟩
  · rw [lvl_down _ _ h0 hj, hn, ha]
  · unfold behL
    rw [lvl_down _ _ h0 hj, ha]
theorem AtI.le {hd : Nd} {L : List Nd} {pos j k n : Nat} {nd : Nd} (h : AtI hd L pos j k n nd) (hl : L.length ≤ 1000) : n ≤ 12 * L.length ∧ n + (scanL j pos ((hts L).drop k) k k).1 ≤ 12 * L.length ∧ n ≤ 12000 := by
  have h1 := (lvl_le (hts L) pos (12 - j)).2
  have h2 : (hts L).length = L.length := List.length_map ..
  have h3 := h.2.1
  rw [h2] at h1
  have h4 : (12 - j) * L.length ≤ 12 * L.length := Nat.mul_le_mul_right _ (by omega)
  omega
theorem behV_at {hd : Nd} {L : List Nd} {pos j k : Nat} {nd : Nd} (hk : (hd :: L)[k]? = some nd) (ha : k = behL (hts L) pos j) : Value.pointer (some ⟨nd.b, 0, none⟩) = behV hd L pos j := by
  unfold behV behB
  rw [← ha, List.getD_eq_getElem?_getD, hk]
  rfl
set_option maxRecDepth 100000 in
set_option maxHeartbeats 4000000 in
theorem place_any (S : Nat → Prop) (tb : Nat) (hs : List Int) (hd : Nd) (L : List Nd) (kv : Value) (key : List Int) (seq : Int) (pos : Nat) (w : World) (hT : TabI S w tb hs hd L) (hk : IsB w kv key) (hp : Pos (L.map (·.x)) key seq pos) :
    Calls Try.prog 28 #[.pointer (some ⟨tb, 0, none⟩), kv, .int .u64 seq] w (PlaceP hd L pos w) := by
  obtain ⟨ko, kc, rfl, -, -, -⟩ := hk.form
  obtain ⟨t1, -, -, tlt⟩ := hT.cells
  have HT := Lib.hid hT
  have HK := Lib.hid hk
  have HP := Lib.hid hp
  clear hT hk hp
  go_enter Try.func28, Try.ntmps28
  go_wp2_with fail
  refine wp_scope_into 0 (fun a' w' => ∃ (j k n : Nat) (nd : Nd) (u12 u13 u14 u15 u16 u17 u18 u19 u20 u21 u22 u23 u24 u25 u26 u27 u28 u29 u30 u31 u32 u33 u34 u35 u36 u37 u38 u39 u40 u41 : Value), a' = { tmps := #[.pointer (some ⟨tb, 0, none⟩), .slice ko key.length kc, .int .u64 seq, undef, undef, undef, .pointer (some ⟨w.heap.size, 0, none⟩), .int .i64 0, .pointer (some ⟨w.heap.size + 1, 0, none⟩), .int .i64 n, .int .i64 j, .pointer (some ⟨nd.b, 0, none⟩), u12, u13, u14, u15, u16, u17, u18, u19, u20, u21, u22, u23, u24, u25, u26, u27, u28, u29, u30, u31, u32, u33, u34, u35, u36, u37, u38, u39, u40, u41], defers := [] } ∧ j < 12 ∧ j < nd.h ∧ Hid (AtI hd L pos j k n nd) ∧ Hid (BehI hd L pos w w' (j + 1)))
    (fun a' _ => (intOf (a'.tmps.getD 10 undef)).toNat + (12 * L.length + 1 - (intOf (a'.tmps.getD 9 undef)).toNat)) rfl ?_ ?_
  · intro Q' hq
    go_wp2_with fail
    go_quiet (fail)
    go_wp2_with fail
    rename_i K9 hK9
    refine wp_label (?_)
    refine hK9 _ _ (hq _ _ ⟨11, 0, 0, hd, _, _, _, _, _, _, _, _, _, _, _, _, _, _, _, _, _, _, _, _, _, _, _, _, _, _, _, _, _, _, rfl, by omega, by rw [HT.out.hh]; omega, ⟨rfl, ?_, ?_⟩, ?_⟩)
    · rfl
    · rfl
    · refine ⟨below_drewN (by repeat' (first | (with_reducible exact Below.refl _ _) | (with_reducible assumption) | (with_reducible refine Below.drew ?_) | (with_reducible refine below_drewN ?_ _) | (with_reducible refine bel_alloc ?_ _) | (with_reducible refine Below.setCell ?_ ?_ _) | (with_reducible refine bel_call ?_ (by assumption)) | (simp <;> omega))) _, ?_, #[.pointer none, .pointer none, .pointer none, .pointer none, .pointer none, .pointer none, .pointer none, .pointer none, .pointer none, .pointer none, .pointer none, .pointer none], ?_, ?_, fun i h1 h2 => by omega⟩
      · exact (Below.heap_alloc _ _ _ (by simp)).trans (heap_alloc_new w _)
      · have := heap_alloc_new (w.alloc (.cells #[.pointer none, .pointer none, .pointer none, .pointer none, .pointer none, .pointer none, .pointer none, .pointer none, .pointer none, .pointer none, .pointer none, .pointer none] 63)) (.cells #[.pointer none, .pointer none, .pointer none, .pointer none, .pointer none, .pointer none, .pointer none, .pointer none, .pointer none, .pointer none, .pointer none, .pointer none] 63 (0, 0))
        rw [World.size_alloc] at this
        exact this
      · rfl
  · rintro a' wr ⟨j, k, n, nd, u12, u13, u14, u15, u16, u17, u18, u19, u20, u21, u22, u23, u24, u25, u26, u27, u28, u29, u30, u31, u32, u33, u34, u35, u36, u37, u38, u39, u40, u41, rfl, hj, hjh, hat, hbe⟩
    obtain ⟨hk, hn, ha⟩ := hat.out
    have hle := hat.out.le HT.out.len
    have hndw := HT.out.nds nd (List.mem_of_getElem? hk)
    have hTr := HT.out.below hbe.out.bel
    obtain ⟨-, -, -, -, b4, bl⟩ := (hndw.keep (Chg.of_ext hbe.out.bel)).cells
    have hc := hTr.ptrs k nd hk j hjh
    rw [List.drop_succ_cons] at hc
    have hh12 := hndw.hh.2
    obtain ⟨cr, rw1, rw2⟩ := (hTr.nds nd (List.mem_of_getElem? hk)).row
    have rlt := (Array.getElem?_eq_some_iff.1 rw1).1
    have q0 : (j : Int) < nd.h := by omega
    clear rw1 rw2
    have sc := scan_next j (L.drop k) k k
    rw [List.map_drop] at sc
    rcases sc with ⟨s1, s2⟩ | ⟨i, n1, s1, s2, s3, s4⟩
    · rw [s1] at hc
      have s2' := s2 pos
      unfold hts at hn ha
      rw [s2'] at hn ha
      have hn1 : n = (lvl (hts L) pos (12 - j)).1 := hn
      have hka : k = behL (hts L) pos j := ha
      clear s1 s2 s2' hn ha hTr hndw
      have HB2 := Lib.hid ((hbe.out).set hj (behV_at hk hka))
      by_cases hj0 : j = 0
      · subst hj0
        have BC := (hbe.out).cells
        have c1 : wr.cell? ⟨w.heap.size + 1, 1, none⟩ = some (.pointer (some ⟨behB hd L pos 1, 0, none⟩)) := BC.2.2.1 1 (by omega) (by omega); have c2 : wr.cell? ⟨w.heap.size + 1, 2, none⟩ = some (.pointer (some ⟨behB hd L pos 2, 0, none⟩)) := BC.2.2.1 2 (by omega) (by omega); have c3 : wr.cell? ⟨w.heap.size + 1, 3, none⟩ = some (.pointer (some ⟨behB hd L pos 3, 0, none⟩)) := BC.2.2.1 3 (by omega) (by omega); have c4 : wr.cell? ⟨w.heap.size + 1, 4, none⟩ = some (.pointer (some ⟨behB hd L pos 4, 0, none⟩)) := BC.2.2.1 4 (by omega) (by omega); have c5 : wr.cell? ⟨w.heap.size + 1, 5, none⟩ = some (.pointer (some ⟨behB hd L pos 5, 0, none⟩)) := BC.2.2.1 5 (by omega) (by omega); have c6 : wr.cell? ⟨w.heap.size + 1, 6, none⟩ = some (.pointer (some ⟨behB hd L pos 6, 0, none⟩)) := BC.2.2.1 6 (by omega) (by omega); have c7 : wr.cell? ⟨w.heap.size + 1, 7, none⟩ = some (.pointer (some ⟨behB hd L pos 7, 0, none⟩)) := BC.2.2.1 7 (by omega) (by omega); have c8 : wr.cell? ⟨w.heap.size + 1, 8, none⟩ = some (.pointer (some ⟨behB hd L pos 8, 0, none⟩)) := BC.2.2.1 8 (by omega) (by omega); have c9 : wr.cell? ⟨w.heap.size + 1, 9, none⟩ = some (.pointer (some ⟨behB hd L pos 9, 0, none⟩)) := BC.2.2.1 9 (by omega) (by omega); have c10 : wr.cell? ⟨w.heap.size + 1, 10, none⟩ = some (.pointer (some ⟨behB hd L pos 10, 0, none⟩)) := BC.2.2.1 10 (by omega) (by omega); have c11 : wr.cell? ⟨w.heap.size + 1, 11, none⟩ = some (.pointer (some ⟨behB hd L pos 11, 0, none⟩)) := BC.2.2.1 11 (by omega) (by omega)
        have d0 := BC.2.2.2.1 0 (by omega); have f0 := BC.2.2.2.2 0; have d1 := BC.2.2.2.1 1 (by omega); have f1 := BC.2.2.2.2 1; have d2 := BC.2.2.2.1 2 (by omega); have f2 := BC.2.2.2.2 2; have d3 := BC.2.2.2.1 3 (by omega); have f3 := BC.2.2.2.2 3; have d4 := BC.2.2.2.1 4 (by omega); have f4 := BC.2.2.2.2 4; have d5 := BC.2.2.2.1 5 (by omega); have f5 := BC.2.2.2.2 5; have d6 := BC.2.2.2.1 6 (by omega); have f6 := BC.2.2.2.2 6; have d7 := BC.2.2.2.1 7 (by omega); have f7 := BC.2.2.2.2 7; have d8 := BC.2.2.2.1 8 (by omega); have f8 := BC.2.2.2.2 8; have d9 := BC.2.2.2.1 9 (by omega); have f9 := BC.2.2.2.2 9; have d10 := BC.2.2.2.1 10 (by omega); have f10 := BC.2.2.2.2 10; have d11 := BC.2.2.2.1 11 (by omega); have f11 := BC.2.2.2.2 11
        have BF := BC.2.1 0
        obtain ⟨x0, cx0⟩ := BC.1 0 (by omega)
        have HV := Lib.hid (show nd.b = behB hd L pos 0 from by have := behV_at (j := 0) hk hka; simpa using this)
        have HN := Lib.hid hn1
        clear BC hn1 hka hat hle
        go_wp2_with fail
        simp only [Exit.jump]
        have e9 : (((n : Nat) : Int)) = (((lvl (hts L) pos 12).1 : Nat) : Int) := by have := HN.out; simp only [Nat.sub_zero] at this; omega
        rw [HV.out, e9]
        refine bodyPost_ret (v := .tuple #[.agg #[.pointer (some ⟨behB hd L pos 0, 0, none⟩), .pointer (some ⟨behB hd L pos 1, 0, none⟩), .pointer (some ⟨behB hd L pos 2, 0, none⟩), .pointer (some ⟨behB hd L pos 3, 0, none⟩), .pointer (some ⟨behB hd L pos 4, 0, none⟩), .pointer (some ⟨behB hd L pos 5, 0, none⟩), .pointer (some ⟨behB hd L pos 6, 0, none⟩), .pointer (some ⟨behB hd L pos 7, 0, none⟩), .pointer (some ⟨behB hd L pos 8, 0, none⟩), .pointer (some ⟨behB hd L pos 9, 0, none⟩), .pointer (some ⟨behB hd L pos 10, 0, none⟩), .pointer (some ⟨behB hd L pos 11, 0, none⟩)], .int .i64 (lvl (hts L) pos 12).1]) (by simp [results, Try.results28, go_sem]; go_simp) rfl ⟨rfl, ?_⟩
        rw [HV.out] at HB2
        exact ((((((((((((HB2.out.bel.setCell (p := ⟨w.heap.size, 0, none⟩) (Nat.le_refl _) _).setCell (p := ⟨w.heap.size, 1, none⟩) (Nat.le_refl _) _).setCell (p := ⟨w.heap.size, 2, none⟩) (Nat.le_refl _) _).setCell (p := ⟨w.heap.size, 3, none⟩) (Nat.le_refl _) _).setCell (p := ⟨w.heap.size, 4, none⟩) (Nat.le_refl _) _).setCell (p := ⟨w.heap.size, 5, none⟩) (Nat.le_refl _) _).setCell (p := ⟨w.heap.size, 6, none⟩) (Nat.le_refl _) _).setCell (p := ⟨w.heap.size, 7, none⟩) (Nat.le_refl _) _).setCell (p := ⟨w.heap.size, 8, none⟩) (Nat.le_refl _) _).setCell (p := ⟨w.heap.size, 9, none⟩) (Nat.le_refl _) _).setCell (p := ⟨w.heap.size, 10, none⟩) (Nat.le_refl _) _).setCell (p := ⟨w.heap.size, 11, none⟩) (Nat.le_refl _) _)
      · obtain ⟨xj, cxj⟩ := (hbe.out).cells.1 j hj
        have fxj := (hbe.out).cells.2.1 j
        have q1 : (0 : Int) < j := by omega
        have hw2 := IntWalk.i64_in ((j : Int) - 1) (by omega)
        have HD := Lib.hid (AtI.down hk hn1 hka (by omega) hj)
        have HLE := Lib.hid hle
        have e8 : (j : Int) - 1 = ((j - 1 : Nat) : Int) := by omega
        have E8 := Lib.hid e8
        have e9 : j - 1 + 1 = j := by omega
        have E9 := Lib.hid e9
        clear hn1 hka hat hle e8 e9
        go_wp2_with fail
        go_step3
        rw [E8.out]
        refine ⟨rfl, ⟨j - 1, k, n, nd, _, _, _, _, _, _, _, _, _, _, _, _, _, _, _, _, _, _, _, _, _, _, _, _, _, _, _, _, _, _, rfl, by omega, by omega, HD.out, ?_⟩, ?_⟩
        · rw [E9.out]; exact HB2.out
        · simp [intOf]; have := HLE.out; omega
    · rw [s3] at hc
      have hm1 : (hd :: L)[k + i + 1]? = some n1 := by rw [List.getElem?_cons_succ, ← s1, List.getElem?_drop]
      have hn1w := HT.out.nds n1 (List.mem_of_getElem? hm1)
      have hn1r := hTr.nds n1 (List.mem_of_getElem? hm1)
      obtain ⟨e0, e1, -, -, -, elt⟩ := hn1r.cells
      have HA := Lib.hid (ahead_any n1.b n1.kv (.slice ko key.length kc) n1.x key seq wr e0 e1 hn1r.k.isB (HK.out.below hbe.out.bel))
      have hpx : aheadB n1.x key seq = decide (k + i < pos) := HP.out.2 (k + i) n1.x (by rw [List.getElem?_map, ← List.getElem?_drop, s1]; rfl)
      rw [hpx] at HA
      have hw1 := IntWalk.i64_in ((n : Int) + 1) (by omega)
      have s4' := s4 pos
      by_cases hp : k + i < pos
      · rw [decide_eq_true hp] at HA
        rw [if_neg (by omega)] at s4'
        clear s1 s3 s4 hTr hndw hn1w hn1r
        go_wp2_with fail
        refine HA.out.mono ?_
        rintro e w1 ⟨rfl, hb⟩
        have HB2 := Lib.hid (hbe.out.call hb)
        have e9 : (n : Int) + 1 = ((n + 1 : Nat) : Int) := by omega
        have E9 := Lib.hid e9
        unfold hts at hn ha
        rw [s4'] at hn ha
        have HA2 : Hid (AtI hd L pos j (k + i + 1) (n + 1) n1) := Lib.hid ⟨hm1, by simp only [hts, List.map_drop, List.drop_drop, ← Nat.add_assoc] at hn ha ⊢; omega, by simp only [hts, List.map_drop, List.drop_drop, ← Nat.add_assoc] at hn ha ⊢; omega⟩
        have HLE := Lib.hid hle
        clear hn ha s4' hle e9
        go_wp2_with fail
        go_step3
        rw [E9.out]
        refine ⟨rfl, ⟨j, k + i + 1, n + 1, n1, _, _, _, _, _, _, _, _, _, _, _, _, _, _, _, _, _, _, _, _, _, _, _, _, _, _, _, _, _, _, rfl, hj, s2, HA2.out, HB2.out⟩, ?_⟩
        simp [intOf]
        have := HLE.out
        have := HA2.out.le HT.out.len
        omega
      · rw [decide_eq_false hp] at HA
        rw [if_pos (by omega)] at s4'
        unfold hts at hn ha
        rw [s4'] at hn ha
        have hn1 : n + 1 = (lvl (hts L) pos (12 - j)).1 := hn
        have hka : k = behL (hts L) pos j := ha
        clear s1 s3 s4 s4' hn ha hTr hndw hn1w hn1r
        go_wp2_with fail
        refine HA.out.mono ?_
        rintro e w1 ⟨rfl, hb⟩
        have HB2 := Lib.hid ((hbe.out.call hb).set hj (behV_at hk hka))
        by_cases hj0 : j = 0
        · subst hj0
          have BC := (hbe.out.call hb).cells
          have c1 : w1.cell? ⟨w.heap.size + 1, 1, none⟩ = some (.pointer (some ⟨behB hd L pos 1, 0, none⟩)) := BC.2.2.1 1 (by omega) (by omega); have c2 : w1.cell? ⟨w.heap.size + 1, 2, none⟩ = some (.pointer (some ⟨behB hd L pos 2, 0, none⟩)) := BC.2.2.1 2 (by omega) (by omega); have c3 : w1.cell? ⟨w.heap.size + 1, 3, none⟩ = some (.pointer (some ⟨behB hd L pos 3, 0, none⟩)) := BC.2.2.1 3 (by omega) (by omega); have c4 : w1.cell? ⟨w.heap.size + 1, 4, none⟩ = some (.pointer (some ⟨behB hd L pos 4, 0, none⟩)) := BC.2.2.1 4 (by omega) (by omega); have c5 : w1.cell? ⟨w.heap.size + 1, 5, none⟩ = some (.pointer (some ⟨behB hd L pos 5, 0, none⟩)) := BC.2.2.1 5 (by omega) (by omega); have c6 : w1.cell? ⟨w.heap.size + 1, 6, none⟩ = some (.pointer (some ⟨behB hd L pos 6, 0, none⟩)) := BC.2.2.1 6 (by omega) (by omega); have c7 : w1.cell? ⟨w.heap.size + 1, 7, none⟩ = some (.pointer (some ⟨behB hd L pos 7, 0, none⟩)) := BC.2.2.1 7 (by omega) (by omega); have c8 : w1.cell? ⟨w.heap.size + 1, 8, none⟩ = some (.pointer (some ⟨behB hd L pos 8, 0, none⟩)) := BC.2.2.1 8 (by omega) (by omega); have c9 : w1.cell? ⟨w.heap.size + 1, 9, none⟩ = some (.pointer (some ⟨behB hd L pos 9, 0, none⟩)) := BC.2.2.1 9 (by omega) (by omega); have c10 : w1.cell? ⟨w.heap.size + 1, 10, none⟩ = some (.pointer (some ⟨behB hd L pos 10, 0, none⟩)) := BC.2.2.1 10 (by omega) (by omega); have c11 : w1.cell? ⟨w.heap.size + 1, 11, none⟩ = some (.pointer (some ⟨behB hd L pos 11, 0, none⟩)) := BC.2.2.1 11 (by omega) (by omega)
          have d0 := BC.2.2.2.1 0 (by omega); have f0 := BC.2.2.2.2 0; have d1 := BC.2.2.2.1 1 (by omega); have f1 := BC.2.2.2.2 1; have d2 := BC.2.2.2.1 2 (by omega); have f2 := BC.2.2.2.2 2; have d3 := BC.2.2.2.1 3 (by omega); have f3 := BC.2.2.2.2 3; have d4 := BC.2.2.2.1 4 (by omega); have f4 := BC.2.2.2.2 4; have d5 := BC.2.2.2.1 5 (by omega); have f5 := BC.2.2.2.2 5; have d6 := BC.2.2.2.1 6 (by omega); have f6 := BC.2.2.2.2 6; have d7 := BC.2.2.2.1 7 (by omega); have f7 := BC.2.2.2.2 7; have d8 := BC.2.2.2.1 8 (by omega); have f8 := BC.2.2.2.2 8; have d9 := BC.2.2.2.1 9 (by omega); have f9 := BC.2.2.2.2 9; have d10 := BC.2.2.2.1 10 (by omega); have f10 := BC.2.2.2.2 10; have d11 := BC.2.2.2.1 11 (by omega); have f11 := BC.2.2.2.2 11
          have BF := BC.2.1 0
          obtain ⟨x0, cx0⟩ := BC.1 0 (by omega)
          have HV := Lib.hid (show nd.b = behB hd L pos 0 from by have := behV_at (j := 0) hk hka; simpa using this)
          have HN := Lib.hid hn1
          clear BC hn1 hka hat hle
          go_wp2_with fail
          simp only [Exit.jump]
          have e9 : ((n : Nat) : Int) + 1 = (((lvl (hts L) pos 12).1 : Nat) : Int) := by have := HN.out; simp only [Nat.sub_zero] at this; omega
          rw [HV.out, e9]
          refine bodyPost_ret (v := .tuple #[.agg #[.pointer (some ⟨behB hd L pos 0, 0, none⟩), .pointer (some ⟨behB hd L pos 1, 0, none⟩), .pointer (some ⟨behB hd L pos 2, 0, none⟩), .pointer (some ⟨behB hd L pos 3, 0, none⟩), .pointer (some ⟨behB hd L pos 4, 0, none⟩), .pointer (some ⟨behB hd L pos 5, 0, none⟩), .pointer (some ⟨behB hd L pos 6, 0, none⟩), .pointer (some ⟨behB hd L pos 7, 0, none⟩), .pointer (some ⟨behB hd L pos 8, 0, none⟩), .pointer (some ⟨behB hd L pos 9, 0, none⟩), .pointer (some ⟨behB hd L pos 10, 0, none⟩), .pointer (some ⟨behB hd L pos 11, 0, none⟩)], .int .i64 (lvl (hts L) pos 12).1]) (by simp [results, Try.results28, go_sem]; go_simp) rfl ⟨rfl, ?_⟩
          rw [HV.out] at HB2
          exact ((((((((((((HB2.out.bel.setCell (p := ⟨w.heap.size, 0, none⟩) (Nat.le_refl _) _).setCell (p := ⟨w.heap.size, 1, none⟩) (Nat.le_refl _) _).setCell (p := ⟨w.heap.size, 2, none⟩) (Nat.le_refl _) _).setCell (p := ⟨w.heap.size, 3, none⟩) (Nat.le_refl _) _).setCell (p := ⟨w.heap.size, 4, none⟩) (Nat.le_refl _) _).setCell (p := ⟨w.heap.size, 5, none⟩) (Nat.le_refl _) _).setCell (p := ⟨w.heap.size, 6, none⟩) (Nat.le_refl _) _).setCell (p := ⟨w.heap.size, 7, none⟩) (Nat.le_refl _) _).setCell (p := ⟨w.heap.size, 8, none⟩) (Nat.le_refl _) _).setCell (p := ⟨w.heap.size, 9, none⟩) (Nat.le_refl _) _).setCell (p := ⟨w.heap.size, 10, none⟩) (Nat.le_refl _) _).setCell (p := ⟨w.heap.size, 11, none⟩) (Nat.le_refl _) _)
        · obtain ⟨xj, cxj⟩ := (hbe.out.call hb).cells.1 j hj
          have fxj := (hbe.out.call hb).cells.2.1 j
          have q1 : (0 : Int) < j := by omega
          have hw2 := IntWalk.i64_in ((j : Int) - 1) (by omega)
          have HD := Lib.hid (AtI.down hk hn1 hka (by omega) hj)
          have HLE := Lib.hid hle
          have e8 : (j : Int) - 1 = ((j - 1 : Nat) : Int) := by omega
          have E8 := Lib.hid e8
          have e9 : j - 1 + 1 = j := by omega
          have E9 := Lib.hid e9
          clear hn1 hka hat hle e8 e9
          go_wp2_with fail
          go_step3
          rw [E8.out]
          refine ⟨rfl, ⟨j - 1, k, n + 1, nd, _, _, _, _, _, _, _, _, _, _, _, _, _, _, _, _, _, _, _, _, _, _, _, _, _, _, _, _, _, _, by rfl, by omega, by omega, HD.out, ?_⟩, ?_⟩
          · rw [E9.out]; exact HB2.out
          · simp [intOf]; have := HLE.out; omega
end Mt
end Go.Proofs.Ytgkgfghmpimaoaa
