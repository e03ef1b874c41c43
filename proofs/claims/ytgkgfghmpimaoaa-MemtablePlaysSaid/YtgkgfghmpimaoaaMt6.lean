/- memtable: what a place's search tells; Len, Bytes, Steps, Get, Level (walks). -/
import Derived.Test.YtgkgfghmpimaoaaMt5
set_option linter.unusedVariables false
set_option linter.unusedSimpArgs false
namespace Go.Proofs.Ytgkgfghmpimaoaa
open Go.RowKit
namespace Mt
theorem scanL_spec (H : List Nat) (j pos : Nat) : ∀ m k a, m = H.length - k → a ≤ k → k ≤ H.length → (∀ i h, a ≤ i → i < k → H[i]? = some h → h ≤ j) → a ≤ pos →
    a ≤ (scanL j pos (H.drop k) k a).2 ∧ (scanL j pos (H.drop k) k a).2 ≤ pos ∧ (∀ i h, (scanL j pos (H.drop k) k a).2 ≤ i → i < pos → H[i]? = some h → h ≤ j) ∧ ((scanL j pos (H.drop k) k a).2 = a ∨ ∃ h, 0 < (scanL j pos (H.drop k) k a).2 ∧ H[(scanL j pos (H.drop k) k a).2 - 1]? = some h ∧ j < h)
  | 0, k, a, hm, hak, hk, hall, hap => by
    have : k = H.length := by omega
    subst this
    rw [List.drop_length]
    exact ⟨Nat.le_refl _, hap, fun i h h1 h2 h3 => hall i h h1 (List.getElem?_eq_some_iff.1 h3).1 h3, .inl rfl⟩
  | m + 1, k, a, hm, hak, hk, hall, hap => by
    have hlt : k < H.length := by omega
    rw [List.drop_eq_getElem_cons hlt]
    have hx : H[k]? = some H[k] := List.getElem?_eq_getElem hlt
    by_cases h1 : H[k] ≤ j
    · simp only [scanL, if_pos h1]
      refine scanL_spec H j pos m (k + 1) a (by omega) (by omega) (by omega) (fun i h h2 h3 h4 => ?_) hap
      by_cases hik : i = k
      · subst hik; rw [hx] at h4; cases h4; exact h1
      · exact hall i h h2 (by omega) h4
    · by_cases h2 : pos ≤ k
      · simp only [scanL, if_neg h1, if_pos h2]
        exact ⟨Nat.le_refl _, hap, fun i h h3 h4 h5 => hall i h h3 (by omega) h5, by simp⟩
      · simp only [scanL, if_neg h1, if_neg h2]
        have ih := scanL_spec H j pos m (k + 1) (k + 1) (by omega) (by omega) (by omega) (fun i h h2 h3 h4 => by omega) (by omega)
        refine ⟨by omega, ih.2.1, ih.2.2.1, .inr ?_⟩
        rcases ih.2.2.2 with e | e
        · rw [e]
          exact ⟨H[k], by omega, hx, by omega⟩
        · exact e
theorem lvl_spec (H : List Nat) (pos : Nat) : ∀ i, i ≤ 12 → (lvl H pos i).2 ≤ pos ∧ (i ≠ 0 → ∀ k h, (lvl H pos i).2 ≤ k → k < pos → H[k]? = some h → h ≤ 12 - i) ∧ ((lvl H pos i).2 = 0 ∨ ∃ h, 0 < (lvl H pos i).2 ∧ H[(lvl H pos i).2 - 1]? = some h ∧ 12 - i < h)
  | 0, _ => by simp [lvl]
  | i + 1, hi => by
    obtain ⟨h1, -, h3⟩ := lvl_spec H pos i (by omega)
    have hl := (lvl_le H pos i).1
    have s := scanL_spec H (11 - i) pos (H.length - (lvl H pos i).2) (lvl H pos i).2 (lvl H pos i).2 rfl (Nat.le_refl _) hl (fun k h a b => by omega) h1
    have e : 12 - (i + 1) = 11 - i := by omega
    rw [e]
    refine ⟨s.2.1, fun _ => s.2.2.1, ?_⟩
    rcases s.2.2.2 with q | q
    · rcases h3 with h3 | ⟨h, h4, h5, h6⟩
      · left; rw [lvl, q, h3]
      · right
        refine ⟨h, ?_, ?_, by omega⟩
        · rw [lvl, q]; exact h4
        · rw [lvl, q]; exact h5
    · right; exact q
/-- the node behind which a place is, on level j -/
theorem beh_spec {hd : Nd} {L : List Nd} (pos : Nat) (hpos : pos ≤ L.length) (hh : hd.h = 12) {j : Nat} (hj : j < 12) : ∃ nd, (hd :: L)[behL (hts L) pos j]? = some nd ∧ nd.b = behB hd L pos j ∧ j < nd.h ∧ behL (hts L) pos j ≤ pos ∧ ∀ k n, behL (hts L) pos j ≤ k → k < pos → L[k]? = some n → n.h ≤ j := by
  obtain ⟨h1, h2, h3⟩ := lvl_spec (hts L) pos (12 - j) (by omega)
  rw [show 12 - (12 - j) = j by omega] at h2 h3
  have hlt : behL (hts L) pos j < (hd :: L).length := by rw [List.length_cons]; unfold behL; omega
  refine ⟨(hd :: L)[behL (hts L) pos j], List.getElem?_eq_getElem hlt, ?_, ?_, h1, fun k n h4 h5 h6 => h2 (by omega) k n.h h4 h5 (by unfold hts; rw [List.getElem?_map, h6]; rfl)⟩
  · unfold behB
    rw [List.getD_eq_getElem?_getD, List.getElem?_eq_getElem hlt]
    rfl
  · have e : behL (hts L) pos j = (lvl (hts L) pos (12 - j)).2 := rfl
    rcases h3 with h3 | ⟨h, h4, h5, h6⟩
    · simp only [e, h3, List.getElem_cons_zero, hh]
      exact hj
    · obtain ⟨q, hq⟩ : ∃ q, (lvl (hts L) pos (12 - j)).2 = q + 1 := ⟨_, (Nat.succ_pred_eq_of_pos h4).symm⟩
      simp only [e, hq, List.getElem_cons_succ]
      rw [hq] at h5
      unfold hts at h5
      rw [Nat.add_sub_cancel, List.getElem?_map] at h5
      have hql : q < L.length := by rw [e, hq, List.length_cons] at hlt; omega
      rw [List.getElem?_eq_getElem hql] at h5
      simp only [Option.map_some, Option.some.injEq] at h5
      omega
theorem nxt_skip {L : List Nd} {j pos : Nat} : ∀ b, b ≤ pos → pos ≤ L.length → (∀ k n, b ≤ k → k < pos → L[k]? = some n → n.h ≤ j) → nxt (L.drop b) j = nxt (L.drop pos) j := by
  intro b
  generalize hm : pos - b = m
  induction m generalizing b with
  | zero => intro h1 _ _; have : b = pos := by omega
            rw [this]
  | succ m ih =>
    intro h1 h2 h3
    have hb : b < L.length := by omega
    rw [← ih (b + 1) (by omega) (by omega) h2 (fun k n h4 => h3 k n (by omega)), List.drop_eq_getElem_cons hb]
    have := h3 b L[b] (Nat.le_refl _) (by omega) (List.getElem?_eq_getElem hb)
    unfold nxt
    rw [List.find?_cons_of_neg (by simp; omega)]
/-- behind the place on level j: the node, its pointer -/
theorem TabI.beh {S : Nat → Prop} {w : World} {tb : Nat} {hs : List Int} {hd : Nd} {L : List Nd} (h : TabI S w tb hs hd L) {pos : Nat} (hpos : pos ≤ L.length) {j : Nat} (hj : j < 12) :
    ∃ nd, nd ∈ hd :: L ∧ (hd :: L)[behL (hts L) pos j]? = some nd ∧ nd.b = behB hd L pos j ∧ j < nd.h ∧ nd.h ≤ 12 ∧ w.cell? ⟨nd.b, 4, none⟩ = some (.slice (some ⟨nd.r, 0, none⟩) nd.h nd.h) ∧ w.cell? ⟨nd.r, j, none⟩ = some (.pointer (nxt (L.drop pos) j)) ∧ nd.b < w.heap.size ∧ nd.r < w.heap.size ∧ w.frozen? ⟨nd.r, j, none⟩ = false := by
  obtain ⟨nd, h1, h2, h3, h4, h5⟩ := beh_spec pos hpos h.hh hj
  have hn := h.nds nd (List.mem_of_getElem? h1)
  obtain ⟨-, -, -, -, c4, cl⟩ := hn.cells
  have hp := h.ptrs _ nd h1 j h3
  rw [List.drop_succ_cons, nxt_skip _ h4 hpos h5] at hp
  obtain ⟨cur, r1, r2⟩ := hn.row
  exact ⟨nd, List.mem_of_getElem? h1, h1, h2, h3, hn.hh.2, c4, hp, cl, (Array.getElem?_eq_some_iff.1 r1).1, frozen_of_row _ _ _ _ _ r1⟩
theorem nxt0 {L : List Nd} (hh : ∀ n ∈ L, 1 ≤ n.h) (pos : Nat) : nxt (L.drop pos) 0 = (L[pos]?).map fun n => ⟨n.b, 0, none⟩ := by
  rcases Nat.lt_or_ge pos L.length with h | h
  · rw [List.drop_eq_getElem_cons h, List.getElem?_eq_getElem h]
    have := hh L[pos] (List.getElem_mem h)
    unfold nxt
    rw [List.find?_cons_of_pos (by simp; omega)]
  · rw [List.drop_of_length_le h, List.getElem?_eq_none h]
    simp [nxt]
set_option maxRecDepth 100000 in
set_option maxHeartbeats 1000000 in
theorem len_any {S : Nat → Prop} {w : World} {tb : Nat} {hs : List Int} {hd : Nd} {L : List Nd} (h : TabI S w tb hs hd L) : Calls Try.prog 23 #[.pointer (some ⟨tb, 0, none⟩)] w (Ret (.int .i64 L.length) w) := by
  obtain ⟨-, c2, -, tlt⟩ := h.cells
  clear h
  go_enter Try.func23, Try.ntmps23
  go_wp2_with fail
  go_ret
  exact ⟨rfl, Below.refl _ _⟩
set_option maxRecDepth 100000 in
set_option maxHeartbeats 1000000 in
theorem bytes_any {S : Nat → Prop} {w : World} {tb : Nat} {hs : List Int} {hd : Nd} {L : List Nd} (h : TabI S w tb hs hd L) : Calls Try.prog 25 #[.pointer (some ⟨tb, 0, none⟩)] w (Ret (.int .i64 (bytesE (L.map (·.x)))) w) := by
  obtain ⟨-, -, c3, tlt⟩ := h.cells
  clear h
  go_enter Try.func25, Try.ntmps25
  go_wp2_with fail
  go_ret
  exact ⟨rfl, Below.refl _ _⟩
set_option maxRecDepth 100000 in
set_option maxHeartbeats 4000000 in
theorem steps_any (S : Nat → Prop) (tb : Nat) (hs : List Int) (hd : Nd) (L : List Nd) (kv : Value) (key : List Int) (seq : Int) (pos : Nat) (w : World) (hT : TabI S w tb hs hd L) (hk : IsB w kv key) (hp : Pos (L.map (·.x)) key seq pos) :
    Calls Try.prog 18 #[.pointer (some ⟨tb, 0, none⟩), kv, .int .u64 seq] w (Ret (.int .i64 (lvl (hts L) pos 12).1) w) := by
  have HC := Lib.hid (place_any S tb hs hd L kv key seq pos w hT hk hp)
  obtain ⟨ko, kc, rfl, -, -, -⟩ := hk.form
  clear hT hk hp
  go_enter Try.func18, Try.ntmps18
  go_wp2_with fail
  refine HC.out.mono ?_
  unfold PlaceP
  rintro e w1 ⟨rfl, hb⟩
  go_wp2_with fail
  go_ret
  exact ⟨rfl, (by repeat' (first | (with_reducible exact Below.refl _ _) | (with_reducible assumption) | (with_reducible refine Below.drew ?_) | (with_reducible refine below_drewN ?_ _) | (with_reducible refine bel_alloc ?_ _) | (with_reducible refine Below.setCell ?_ ?_ _) | (with_reducible refine bel_call ?_ (by assumption)) | (simp <;> omega)))⟩
end Mt
end Go.Proofs.Ytgkgfghmpimaoaa
