/- slices.Grow at nil, slices.Concat of bytes. -/
import Derived.Test.YtmojbamloanleaaBytesFn
import Derived.Test.YtmojbamloanleaaKit
import Derived.Lib.AppendZerosOnto
import Derived.Lib.AppendZeros
set_option linter.unusedVariables false
set_option linter.unusedSimpArgs false
namespace Go.Proofs.Ytmojbamloanleaa
open Go.RowKit
def GrowPost (w : World) (e : Ending) (w' : World) : Prop := ∃ v, e = .returned v ∧ w'.ownsRow w.heap.size 5 1 v 0 [] ∧ Below w.heap.size w w'
set_option maxRecDepth 100000 in
set_option maxHeartbeats 1000000 in
theorem grow_nil (n : Nat) (w : World) (hn : n ≤ 140737488355328) : Calls Try.prog 89 #[.slice none 0 0, .int .i64 n] w (GrowPost w) := by
  rcases Nat.eq_zero_or_pos n with h0 | h0
  · subst h0
    go_enter Try.func89, Try.ntmps89
    go_wp2_with fail
    go_ret
    exact ⟨_, rfl, World.ownsRow_nil _ _ _ _, Below.refl _ _⟩
  · obtain ⟨i0, hi0, hz0, hz1, hz2⟩ := info_parts infoU8
    have hrz : ∀ ty, (Builtin.append_ #[25, 3] ty #[.slice none 0 0, .int .i64 (n : Int)]).run Try.prog w =
        .ok (.slice (some ⟨w.heap.size, 0, none⟩) n (grownCap w n 0 5)) (w.drew.alloc (.cells (#[] ++ Builtin.zeroCells (Value.int .u8 0).cells n ++ Builtin.zeroCells (Value.int .u8 0).cells (grownCap w n 0 5 - n)) 5)) := fun ty => by
      have h := Lib.run_append_grow_zeros w 25 3 ty 5 i0 (.int .u8 0) .i64 .i64 Try.underlying25 Try.underlying3 hi0 hz0 none 0 0 [] (run_firstCells_none w.drew i0.size 0 0 0) n h0 (by omega) (by omega) (by omega) (by rw [hz2]; omega)
        (by rw [Nat.zero_add]; exact growslice_fits h0 (by rw [hz2]; omega))
      rw [Nat.zero_add] at h
      exact h
    have hG : n ≤ grownCap w n 0 5 := grownCap_ge w _ _ _
    have hG63 : grownCap w n 0 5 ≤ maxLen := grownCap_le_maxLen w n 0 5 (by unfold maxLen; omega)
    generalize grownCap w n 0 5 = G at hrz hG hG63
    have hG2 : G ≤ 9223372036854775807 := by unfold maxLen at hG63; omega
    have HRZ := Lib.hid hrz
    have HGM := Lib.hid hG63
    clear hrz hi0 hz0 hz1 hz2 hG63
    go_enter Try.func89, Try.ntmps89
    go_wp2_with (at_builtin; refine Lib.wpList_append_run _ rfl (.tmp 20) (.tmp 21) _ _ rfl _ _ rfl rfl _ _ (HRZ.out _) ?_)
    all_goals go_ret
    all_goals
      refine ⟨_, rfl, ⟨by simp, .inr ⟨w.heap.size, G, _, rfl, Nat.le_refl _, heap_alloc_new w.drew _, Nat.zero_le _, HGM.out, ?_, by simp⟩⟩, ((Below.refl _ w).drew).alloc (Nat.le_refl _) _⟩
      simp [size_zeroCells]; omega
/-- how long all are -/
def catLen (ls : List (List Int)) : Nat := (ls.map List.length).sum
theorem catLen_snoc {ls : List (List Int)} {k : Nat} {l : List Int} (h : ls[k]? = some l) : catLen (ls.take (k + 1)) = catLen (ls.take k) + l.length := by
  rw [take_snoc h]; unfold catLen; rw [List.map_append, List.sum_append]; simp
theorem catLen_flat (ls : List (List Int)) : ls.flatten.length = catLen ls := by unfold catLen; rw [List.length_flatten]
theorem catLen_le (ls : List (List Int)) (k : Nat) : catLen (ls.take k) ≤ catLen ls := by
  have h : ls = ls.take k ++ ls.drop k := (List.take_append_drop k ls).symm
  have e : catLen ls = catLen (ls.take k) + catLen (ls.drop k) := by
    conv => lhs; rw [h]
    unfold catLen; rw [List.map_append, List.sum_append]
  omega
theorem flat_snoc {ls : List (List Int)} {k : Nat} {l : List Int} (h : ls[k]? = some l) : (ls.take (k + 1)).flatten = (ls.take k).flatten ++ l := by
  rw [take_snoc h, List.flatten_append]; simp
def CatPost (ls : List (List Int)) (w : World) (e : Ending) (w' : World) : Prop := ∃ v, e = .returned v ∧ w'.ownsRow w.heap.size 5 1 v ls.flatten.length (ls.flatten.map (Value.int .u8)) ∧ Below w.heap.size w w'
set_option maxRecDepth 100000 in
set_option maxHeartbeats 1000000 in
theorem concat_any (v : Value) (ls : List (List Int)) (w : World) (h : IsBB w v ls) (hs : catLen ls ≤ 140737488355328) : Calls Try.prog 68 #[v] w (CatPost ls w) := by
  have hm := h.max
  obtain ⟨ao, cap, rfl, hnc⟩ := h.form
  have HB := Lib.hid h
  have HS := Lib.hid hs
  obtain ⟨i0, hi0, hz0, hz1, hz2⟩ := info_parts infoU8
  have HI := Lib.hid hi0; have HZ0 := Lib.hid hz0; have HZ1 := Lib.hid hz1; have HZ2 := Lib.hid hz2
  clear hi0 hz0 hz1 hz2 h hs
  go_enter Try.func68, Try.ntmps68
  go_wp2_with fail
  go_loop [3, 11] (fun n i => ∃ (k s : Nat), k ≤ ls.length ∧ i = .int .i64 k ∧ n = .int .i64 s ∧ s ≤ 140737488355328 ∧ Hid (s = catLen (ls.take k))) (fun _ i => ls.length - (intOf i).toNat)
  case atStart => exact ⟨0, 0, Nat.zero_le _, rfl, rfl, by omega, rfl⟩
  case round =>
    obtain ⟨k, s, hk, rfl, rfl, hs1, hs⟩ := hrel
    by_cases hlt : k < ls.length
    · obtain ⟨b, o, x, l, rfl, hb, hx, hc, hB⟩ := HB.out.at_ hlt
      have hle := catLen_le ls (k + 1)
      rw [catLen_snoc hx.out, ← hs.out] at hle
      have hle2 : s + l.length ≤ 140737488355328 := Nat.le_trans hle HS.out
      obtain ⟨xo, xcap, rfl, hxl, _, _⟩ := hB.out.form
      clear hle
      go_wp2_with fail
      go_round
      case rel => exact ⟨k + 1, s + l.length, by omega, by go_num, by go_num, hle2, Lib.hid (by rw [catLen_snoc hx.out, ← hs.out])⟩
      case measure => simp [intOf]; omega
    · have hkp : k = ls.length := by omega
      subst hkp
      go_wp2_with fail
      refine (grow_nil s w hs1).mono ?_
      unfold GrowPost
      rintro e w1 ⟨gv, rfl, hg, g1⟩
      have HG := Lib.hid hg
      have G1 := Lib.hid g1
      clear hg g1
      go_wp2_with fail
      go_loopw [6, 27] (fun out i wr => ∃ k : Nat, k ≤ ls.length ∧ i = .int .i64 k ∧ Hid (wr.ownsRow w.heap.size 5 1 out (catLen (ls.take k)) ((ls.take k).flatten.map (Value.int .u8))) ∧ Hid (Below w.heap.size w wr)) (fun _ i _ => ls.length - (intOf i).toNat)
      case atStart => exact ⟨0, Nat.zero_le _, rfl, HG.out, G1.out⟩
      case round =>
        obtain ⟨k, hk, rfl, hown, hbel⟩ := hrel
        by_cases hlt : k < ls.length
        · obtain ⟨b, o, x, l, rfl, hb, hx, hc, hB⟩ := (HB.out.below hbel.out).at_ hlt
          have hle := Nat.le_trans (catLen_le ls (k + 1)) HS.out
          rw [catLen_snoc hx.out] at hle
          have HLE := Lib.hid hle
          clear hle
          go_wp2_with (at_builtin; refine wpList_append_bytes (base := w.heap.size) (.tmp 31) (.tmp 32) _ rfl rfl i0 _ Try.underlying25 HI.out HZ0.out HZ1.out HZ2.out rfl x _ l rfl rfl hown.out hB.out HLE.out hbel.out.size ?_; intro v1 w2 hown1 hb1; have HO1 := Lib.hid hown1; have HB1 := Lib.hid (hbel.out.trans hb1); clear hown1 hb1)
          go_roundw
          case rel => exact ⟨k + 1, by omega, by go_num, by rw [catLen_snoc hx.out, flat_snoc hx.out]; exact HO1.out, HB1.out⟩
          case measure => simp [intOf]; omega
        · have hkp : k = ls.length := by omega
          subst hkp
          go_wp2_with fail
          go_ret
          refine ⟨_, rfl, ?_, hbel.out⟩
          have := hown.out
          rw [List.take_length] at this
          rw [catLen_flat]
          exact this
end Go.Proofs.Ytmojbamloanleaa
