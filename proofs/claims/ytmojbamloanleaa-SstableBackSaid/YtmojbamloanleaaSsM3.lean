/- memtable: the law's mark writes over bytes of the call's own. -/
import Derived.Test.YtmojbamloanleaaSsM2
set_option linter.unusedVariables false
set_option linter.unusedSimpArgs false
namespace Go.Proofs.Ytmojbamloanleaa
open Go.RowKit
namespace Mt
/-- bytes that may be written over -/
def WrS (w : World) (u : Value) : Prop := ∃ ao n cap, u = .slice ao n cap ∧ n ≤ 9223372036854775807 ∧ (0 < n → ∃ g cur, ao = some ⟨g, 0, none⟩ ∧ w.heap[g]? = some (.cells cur 5 (0, 0)) ∧ n ≤ cur.size)
theorem WrS.set {w : World} {u v : Value} {p : Addr} (h : WrS w u) (hp : p.spot = none) : WrS (w.setCell p v) u := by
  obtain ⟨ao, n, cap, h1, h2, h3⟩ := h
  refine ⟨ao, n, cap, h1, h2, fun hn => ?_⟩
  obtain ⟨g', cur, q1, q3, q4⟩ := h3 hn
  obtain ⟨b, o, s⟩ := p
  simp only at hp
  subst hp
  by_cases hg : g' = b
  · subst hg
    exact ⟨g', cur.setIfInBounds o v, q1, heap_setCell_same w g' o cur _ _ q3, by simpa using q4⟩
  · exact ⟨g', cur, q1, by rw [Below.heap_setCell w _ v g' hg]; exact q3, q4⟩
theorem WrS.below {w w' : World} {u : Value} (h : WrS w u) (hb : Below w.heap.size w w') : WrS w' u := by
  obtain ⟨ao, n, cap, h1, h2, h3⟩ := h
  refine ⟨ao, n, cap, h1, h2, fun hn => ?_⟩
  obtain ⟨g', cur, q1, q3, q4⟩ := h3 hn
  exact ⟨g', cur, q1, (hb.block g' (Array.getElem?_eq_some_iff.1 q3).1).trans q3, q4⟩
theorem WrS.at_ {w : World} {n cap k : Nat} {ao : Option Addr} (h : WrS w (.slice ao n cap)) (hk : k < n) : ∃ g x, ao = some ⟨g, 0, none⟩ ∧ g < w.heap.size ∧ w.cell? ⟨g, k, none⟩ = some x ∧ w.frozen? ⟨g, k, none⟩ = false := by
  obtain ⟨ao', n', cap', h1, h2, h3⟩ := h
  cases h1
  obtain ⟨g, cur, rfl, q3, q4⟩ := h3 (by omega)
  refine ⟨g, cur[k]'(by omega), rfl, (Array.getElem?_eq_some_iff.1 q3).1, ?_, frozen_of_row w g k cur _ q3⟩
  simp [World.cell?, q3, Array.getElem?_eq_getElem (show k < cur.size by omega)]
theorem WrS.of_own {w : World} {base : Nat} {u : Value} {l : List Int} (h : OwnS w base 5 u l) : WrS w u := by
  rcases h.2 with ⟨rfl, rfl⟩ | ⟨g, cap, cur, rfl, h2, h3, h4, h5, h6, h7⟩
  · exact ⟨none, 0, 0, rfl, by omega, fun h => by omega⟩
  · refine ⟨_, _, cap, rfl, by unfold maxLen at h6; omega, fun _ => ⟨g, cur, rfl, h3, by omega⟩⟩
theorem WrS.len {w : World} {n cap : Nat} {ao : Option Addr} (h : WrS w (.slice ao n cap)) : n ≤ 9223372036854775807 := by
  obtain ⟨ao', n', cap', h1, h2, h3⟩ := h
  cases h1
  exact h2
/-- mark: the blocks of the two lists of bytes turn, and no others -/
def MarkP (S : Nat → Prop) (w : World) (e : Ending) (w' : World) : Prop := e = .returned (.tuple #[]) ∧ Chg S w w' ∧ ∀ u, WrS w u → WrS w' u
def Marks (S : Nat → Prop) (w w' : World) : Prop := Chg S w w' ∧ ∀ u, WrS w u → WrS w' u
theorem Marks.set {S : Nat → Prop} {w w' : World} (h : Marks S w w') {g k : Nat} (hg : S g) (v : Value) : Marks S w (w'.setCell ⟨g, k, none⟩ v) :=
  ⟨h.1.set (p := ⟨g, k, none⟩) (fun _ => hg) v, fun u hu => (h.2 u hu).set rfl⟩
set_option maxRecDepth 100000 in
set_option maxHeartbeats 4000000 in
theorem mark_any (S : Nat → Prop) (kv vv : Value) (seq : Int) (del : Bool) (w : World) (hk : WrS w kv) (hv : WrS w vv) (sk : ∀ b, kv.ownBlock = some b → S b) (sv : ∀ b, vv.ownBlock = some b → S b) (hS : ∀ b, S b → b < w.heap.size) :
    Calls Try.prog 26 #[.agg #[kv, .int .u64 seq, .bool del, vv]] w (MarkP S w) := by
  obtain ⟨ko, n, kc, rfl, -, -⟩ := id hk
  obtain ⟨vo, m, vc, rfl, -, -⟩ := id hv
  have m1 := hk.len
  have m2 := hv.len
  have HK := Lib.hid (hk.below (bel_alloc (Below.refl _ w) (.cells #[.slice ko n kc, .int .u64 seq, .bool del, .slice vo m vc] 46)))
  have HV := Lib.hid (hv.below (bel_alloc (Below.refl _ w) (.cells #[.slice ko n kc, .int .u64 seq, .bool del, .slice vo m vc] 46)))
  have SK := Lib.hid sk
  have SV := Lib.hid sv
  have HS := Lib.hid hS
  have FIN : Hid (∀ w', Marks S (w.alloc (.cells #[.slice ko n kc, .int .u64 seq, .bool del, .slice vo m vc] 46)) w' → Chg S w w' ∧ ∀ u, WrS w u → WrS w' u) := Lib.hid fun w' h => ⟨((Chg.refl S w).alloc _).trans h.1, fun u hu => h.2 u (hu.below (bel_alloc (Below.refl _ w) _))⟩
  have BOX : Hid (∀ w', Marks S (w.alloc (.cells #[.slice ko n kc, .int .u64 seq, .bool del, .slice vo m vc] 46)) w' → w'.cell? ⟨w.heap.size, 0, none⟩ = some (.slice ko n kc) ∧ w'.cell? ⟨w.heap.size, 3, none⟩ = some (.slice vo m vc)) := Lib.hid fun w' h =>
    ⟨(h.1.cell (by simp) (fun h => by have := HS.out _ h; omega)).trans (by go_simp), (h.1.cell (by simp) (fun h => by have := HS.out _ h; omega)).trans (by go_simp)⟩
  clear hk hv sk sv hS
  go_enter Try.func26, Try.ntmps26
  go_wp2_with fail
  go_loopw [2] (fun i wr => ∃ k : Nat, k ≤ n ∧ i = .int .i64 k ∧ Hid (Marks S (w.alloc (.cells #[.slice ko n kc, .int .u64 seq, .bool del, .slice vo m vc] 46)) wr)) (fun i _ => n - (intOf i).toNat)
  case atStart => exact ⟨0, by omega, rfl, ⟨Chg.refl _ _, fun _ h => h⟩⟩
  case round =>
    obtain ⟨k, hk, rfl, hm⟩ := hrel
    obtain ⟨b0, b3⟩ := BOX.out wr hm.out
    by_cases hlt : k < n
    · obtain ⟨g, x, rfl, hg, hc, hf⟩ := (hm.out.2 _ HK.out).at_ hlt
      have HM := Lib.hid (hm.out.set (k := k) (SK.out g rfl) (.int .u8 77))
      have hI1 : (k : Int) < n := by omega
      have hw1 := IntWalk.i64_in ((k : Int) + 1) (by omega)
      go_wp2_with fail
      go_roundw
      case rel => exact ⟨k + 1, by omega, by go_num, HM.out⟩
      case measure => simp [intOf]; omega
    · have hkl : k = n := by omega
      subst hkl
      go_wp2_with fail
      go_loopw [3] (fun i wr => ∃ j : Nat, j ≤ m ∧ i = .int .i64 j ∧ Hid (Marks S (w.alloc (.cells #[.slice ko k kc, .int .u64 seq, .bool del, .slice vo m vc] 46)) wr)) (fun i _ => m - (intOf i).toNat)
      case atStart => exact ⟨0, by omega, rfl, hm⟩
      case round =>
        obtain ⟨j, hj, rfl, hm⟩ := hrel
        obtain ⟨b0, b3⟩ := BOX.out _ hm.out
        by_cases hlt : j < m
        · obtain ⟨g, x, rfl, hg, hc, hf⟩ := (hm.out.2 _ HV.out).at_ hlt
          have HM := Lib.hid (hm.out.set (k := j) (SV.out g rfl) (.int .u8 77))
          have hI1 : (j : Int) < m := by omega
          have hw1 := IntWalk.i64_in ((j : Int) + 1) (by omega)
          go_wp2_with fail
          go_roundw
          case rel => exact ⟨j + 1, by omega, by go_num, HM.out⟩
          case measure => simp [intOf]; omega
        · have hjl : j = m := by omega
          subst hjl
          go_wp2_with fail
          go_end0
          exact ⟨rfl, FIN.out _ hm.out⟩
end Mt
end Go.Proofs.Ytmojbamloanleaa
