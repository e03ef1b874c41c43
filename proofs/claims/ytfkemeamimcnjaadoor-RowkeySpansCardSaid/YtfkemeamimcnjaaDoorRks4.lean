/- rowkey: the law's mark writes over bytes of the call's own (elder style). -/
import Derived.Test.YtfkemeamimcnjaaDoorRkC
import Derived.Test.YtfkemeamimcnjaaDoorKit
set_option linter.unusedVariables false
set_option linter.unusedSimpArgs false
namespace Go.Proofs.YtfkemeamimcnjaaDoor
open Go.RowKit
/-- bytes that may be written over -/
def WrS (w : World) (base : Nat) (u : Value) : Prop := ∃ ao n cap, u = .slice ao n cap ∧ n ≤ 9223372036854775807 ∧ (0 < n → ∃ g cur, ao = some ⟨g, 0, none⟩ ∧ base ≤ g ∧ w.heap[g]? = some (.cells cur 5 (0, 0)) ∧ n ≤ cur.size)
theorem WrS.set {w : World} {base : Nat} {u v : Value} {p : Addr} (h : WrS w base u) (hp : p.spot = none) : WrS (w.setCell p v) base u := by
  obtain ⟨ao, n, cap, h1, h2, h3⟩ := h
  refine ⟨ao, n, cap, h1, h2, fun hn => ?_⟩
  obtain ⟨g', cur, q1, q2, q3, q4⟩ := h3 hn
  obtain ⟨b, o, s⟩ := p
  simp only at hp
  subst hp
  by_cases hg : g' = b
  · subst hg
    exact ⟨g', cur.setIfInBounds o v, q1, q2, heap_setCell_same w g' o cur _ _ q3, by simpa using q4⟩
  · exact ⟨g', cur, q1, q2, by rw [Below.heap_setCell w _ v g' hg]; exact q3, q4⟩
theorem WrS.at_ {w : World} {base n cap k : Nat} {ao : Option Addr} (h : WrS w base (.slice ao n cap)) (hk : k < n) : ∃ g x, ao = some ⟨g, 0, none⟩ ∧ base ≤ g ∧ g < w.heap.size ∧ w.cell? ⟨g, k, none⟩ = some x ∧ w.frozen? ⟨g, k, none⟩ = false := by
  obtain ⟨ao', n', cap', h1, h2, h3⟩ := h
  cases h1
  obtain ⟨g, cur, rfl, q2, q3, q4⟩ := h3 (by omega)
  refine ⟨g, cur[k]'(by omega), rfl, q2, (Array.getElem?_eq_some_iff.1 q3).1, ?_, frozen_of_row w g k cur _ q3⟩
  simp [World.cell?, q3, Array.getElem?_eq_getElem (show k < cur.size by omega)]
/-- a list of such, in a block that is none of theirs -/
def WrL (w : World) (base gL : Nat) (us : List Value) : Prop := (∃ cs, w.heap[gL]? = some (.cells cs 29 (0, 0)) ∧ cs.toList = us) ∧ gL < w.heap.size ∧ ∀ u ∈ us, WrS w base u
theorem WrL.get {w : World} {base gL k : Nat} {us : List Value} (h : WrL w base gL us) (hk : k < us.length) : ∃ ao n cap, us[k]? = some (.slice ao n cap) ∧ w.cell? ⟨gL, k, none⟩ = some (.slice ao n cap) ∧ WrS w base (.slice ao n cap) ∧ n ≤ 9223372036854775807 := by
  obtain ⟨⟨cs, h1, rfl⟩, -, h3⟩ := h
  obtain ⟨ao, n, cap, h4, h5, h6⟩ := h3 cs.toList[k] (List.getElem_mem hk)
  refine ⟨ao, n, cap, by rw [List.getElem?_eq_getElem hk, h4], ?_, ⟨ao, n, cap, rfl, h5, h6⟩, h5⟩
  simp only [Array.getElem_toList] at h4
  simp [World.cell?, h1, Array.getElem?_eq_getElem (show k < cs.size by simpa using hk), h4]
theorem WrL.set {w : World} {base gL g k : Nat} {us : List Value} {v : Value} (h : WrL w base gL us) (hg : g ≠ gL) : WrL (w.setCell ⟨g, k, none⟩ v) base gL us := by
  obtain ⟨⟨cs, h1, h2⟩, h3, h4⟩ := h
  exact ⟨⟨cs, by rw [Below.heap_setCell w _ v gL (fun e => hg e.symm)]; exact h1, h2⟩, Nat.lt_of_lt_of_le h3 ((Below.refl 0 w).setCell (p := ⟨g, k, none⟩) (Nat.zero_le _) v).size, fun u hu => (h4 u hu).set rfl⟩
theorem WrL.ne {w : World} {base gL n cap : Nat} {us : List Value} {ao : Option Addr} {g : Nat} (h : WrL w base gL us) (hs : WrS w base (.slice ao n cap)) (hn : 0 < n) (ha : ao = some ⟨g, 0, none⟩) : g ≠ gL := by
  obtain ⟨⟨cs, h1, -⟩, -, -⟩ := h
  obtain ⟨ao', n', cap', e, -, h3⟩ := hs
  cases e
  obtain ⟨g', cur, q1, -, q3, -⟩ := h3 hn
  rw [ha] at q1
  cases q1
  rintro rfl
  rw [h1] at q3
  cases q3
set_option maxRecDepth 100000 in
set_option maxHeartbeats 1000000 in
theorem mark_any (base gL : Nat) (us : List Value) (w : World) (h : WrL w base gL us) (hn : us.length ≤ 1000) :
    Calls Tryd.prog 29 #[.slice (some ⟨gL, 0, none⟩) us.length us.length] w (fun e w' => e = .returned (.tuple #[]) ∧ Below base w w') := by
  have HO := Lib.hid h
  clear h
  go_enter Tryd.func29, Tryd.ntmps29
  go_wp2_with fail
  go_loopw [2] (fun i wr => ∃ k : Nat, k ≤ us.length ∧ i = .int .i64 k ∧ Hid (WrL wr base gL us ∧ Below base w wr)) (fun i _ => us.length - (intOf i).toNat)
  case atStart => exact ⟨0, by omega, rfl, ⟨HO.out, Below.refl _ _⟩⟩
  case round =>
    obtain ⟨k, hk, rfl, hh⟩ := hrel
    by_cases hlt : k < us.length
    · obtain ⟨ao, n, cap, hu, hc, hs, hnb⟩ := hh.out.1.get hlt
      have hgl := hh.out.1.2.1
      have HS := Lib.hid hs
      have HU := Lib.hid hu
      clear hs hu
      go_wp2_with fail
      go_loopw [3] (fun j wr2 => ∃ m : Nat, m ≤ n ∧ j = .int .i64 m ∧ Hid (WrL wr2 base gL us ∧ Below base w wr2)) (fun j _ => n - (intOf j).toNat)
      case atStart => exact ⟨0, by omega, rfl, hh⟩
      case round =>
        obtain ⟨m, hm, rfl, hh2⟩ := hrel
        obtain ⟨ao', n', cap', hu2, hc2, hs2, -⟩ := hh2.out.1.get hlt
        have he : some (Value.slice ao' n' cap') = some (Value.slice ao n cap) := hu2.symm.trans HU.out
        cases he
        have hgl2 := hh2.out.1.2.1
        by_cases hml : m < n
        · obtain ⟨g, x, rfl, hg1, hg2, hx, hf⟩ := hs2.at_ hml
          have hne := hh2.out.1.ne hs2 (by omega) rfl
          have HS2 := Lib.hid hs2
          clear hs2 hu2
          go_wp2_with fail
          go_roundw
          case rel =>
            exact ⟨m + 1, by omega, by go_num, Lib.hid ⟨hh2.out.1.set hne, hh2.out.2.setCell (p := ⟨g, m, none⟩) hg1 _⟩⟩
          case measure => simp [intOf]; omega
        · have hmp : m = n := by omega
          subst hmp
          clear hs2 hu2
          go_wp2_with fail
          go_roundw
          case rel => exact ⟨k + 1, by omega, by go_num, hh2⟩
          case measure => simp [intOf]; omega
    · have hkp : k = us.length := by omega
      subst hkp
      go_wp2_with fail
      (try simp only [Exit.inBlock, Exit.then])
      exact bodyPost_end (results_none rfl _ _ _) rfl ⟨rfl, hh.out.2⟩
end Go.Proofs.YtfkemeamimcnjaaDoor
