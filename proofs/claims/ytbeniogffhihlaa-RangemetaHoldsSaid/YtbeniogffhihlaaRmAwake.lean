/- rangemeta: what each statement asks first. -/
import Derived.Test.YtbeniogffhihlaaRmSplit2
set_option linter.unusedVariables false
set_option linter.unusedSimpArgs false
namespace Go.Proofs.Ytbeniogffhihlaa
open Go.RowKit
namespace Rm
theorem new_own (w : World) : OwnRgs (newW w) w.heap.size (.slice (some ⟨w.heap.size, 0, none⟩) 1 1) [(1, [], [], 1)] := by
  refine ⟨[((1, [], [], 1), .slice none 0 0, .slice none 0 0)], rfl, ⟨rfl, .inr ⟨w.heap.size, 1, #[.int .i64 1, .slice none 0 0, .slice none 0 0, .int .i64 1], rfl, Nat.le_refl _, ?_, Nat.le_refl _, by simp [maxLen], rfl, rfl⟩⟩, fun r hr => ?_⟩
  · have h := heap_alloc_old (w.alloc (.cells #[.int .i64 1, .slice none 0 0, .slice none 0 0, .int .i64 1] 39)) (.cells #[.slice (some ⟨w.heap.size, 0, none⟩) 1 1] 80) (r := w.heap.size) (by simp)
    exact h.trans (heap_alloc_new w _)
  · rw [List.mem_singleton] at hr
    subst hr
    exact ⟨⟨Rng.nil, .inl ⟨rfl, rfl⟩⟩, ⟨Rng.nil, .inl ⟨rfl, rfl⟩⟩, by unfold I64; simp, by unfold I64; simp⟩
theorem new_tab (w : World) : (newW w).heap[w.heap.size + 1]? = some (.cells #[.slice (some ⟨w.heap.size, 0, none⟩) 1 1] 80 (0, 0)) := by
  have h := heap_alloc_new (w.alloc (.cells #[.int .i64 1, .slice none 0 0, .slice none 0 0, .int .i64 1] 39)) (.cells #[.slice (some ⟨w.heap.size, 0, none⟩) 1 1] 80)
  have e : (w.alloc (.cells #[.int .i64 1, .slice none 0 0, .slice none 0 0, .int .i64 1] 39)).heap.size = w.heap.size + 1 := by simp
  rw [e] at h
  exact h
theorem newW_size (w : World) : (newW w).heap.size = w.heap.size + 2 := by simp [newW]
theorem newW_below (w : World) : Below w.heap.size w (newW w) := ((Below.refl _ _).alloc (Nat.le_refl _) _).alloc (by simp) _
set_option maxRecDepth 100000 in
set_option maxHeartbeats 2000000 in
theorem awake_any (w : World) : Calls Try.prog 10 #[] w (Ret (.bool true) w) := by
  have e1 : splitE [(1, [], [], 1)] 1 2 [109] = 0 := by decide
  have e2 : splitR [(1, [], [], 1)] 1 2 [109] = [(1, [], [109], 2), (2, [109], [], 2)] := by decide
  have e3 : (findF [(1, [], [109], 2), (2, [109], [], 2)] [122]).getD zeroR = (2, [109], [], 2) := by decide
  have E1 := Lib.hid e1; have E2 := Lib.hid e2; have E3 := Lib.hid e3
  clear e1 e2 e3
  have kc := fun (w : World) (C : Array Value) (n c : Nat) => Lib.run_convert_bytes_const (P := Try.prog) w 23 5 C n c Try.underlying23 Try.underlying5
  go_enter Try.func10, Try.ntmps10
  go_wp2_with fail
  refine (new_any _).mono ?_
  rintro e w1 ⟨rfl, hw⟩
  have hs : w1.heap.size = w.heap.size + 2 := by rw [← hw]; exact newW_size w
  have HT : Hid (w1.heap[w.heap.size + 1]? = some (.cells #[.slice (some ⟨w.heap.size, 0, none⟩) 1 1] 80 (0, 0))) := Lib.hid (by rw [← hw]; exact new_tab w)
  have HO : Hid (OwnRgs w1 w.heap.size (.slice (some ⟨w.heap.size, 0, none⟩) 1 1) [(1, [], [], 1)]) := Lib.hid (by rw [← hw]; exact new_own w)
  have HB : Hid (Below w.heap.size w w1) := Lib.hid (by rw [← hw]; exact newW_below w)
  have HS := Lib.hid hs
  clear hs hw
  have ba : Below w1.heap.size w1 (w1.alloc (.cells #[.int .u8 109] 5 (1, 2))) := (Below.refl _ _).alloc (Nat.le_refl _) _
  have KB : IsB (w1.alloc (.cells #[.int .u8 109] 5 (1, 2))) (.slice (some ⟨w1.heap.size, 0, none⟩) 1 1) [109] := isB_const w1 [109] (Rng.cons (by omega) Rng.nil) (by decide) 5 (1, 2)
  have HSP := Lib.hid (split_any w.heap.size (w.heap.size + 1) _ (.slice (some ⟨w1.heap.size, 0, none⟩) 1 1) [(1, [], [], 1)] 1 2 [109] (w1.alloc (.cells #[.int .u8 109] 5 (1, 2))) (by omega) ((ba.block _ (by have := HS.out; omega)).trans HT.out) (HO.out.below ba) (by simp) (by simp) (by intro x hx; rw [List.mem_singleton] at hx; subst hx; unfold Fair; simp) KB (by unfold I64; omega) (by unfold I64; omega) (by simp; have := HS.out; omega))
  have GA := Lib.hid (HB.out.trans (ba.mono HB.out.size))
  clear ba KB
  go_wp2_with fail
  refine HSP.out.mono ?_
  unfold SplitP
  rw [E1.out, E2.out]
  rintro e w2 ⟨rfl, v2, ht2, ho2, hc2, -⟩
  have HT2 := Lib.hid ht2
  have HO2 := Lib.hid ho2
  have zl : w.heap.size + 1 < w2.heap.size := (Array.getElem?_eq_some_iff.1 ht2).1
  have G2 := Lib.hid (GA.out.trans (hc2.below GA.out.size (fun b hb h => by rcases h with h | h; exact absurd h (by omega); exact absurd (Option.some.inj (show some w.heap.size = some b from h)) (by omega))))
  obtain ⟨g, cap, rfl⟩ := ho2.slice (by simp)
  clear ht2 ho2 hc2 HSP
  have ba : Below w2.heap.size w2 (w2.alloc (.cells #[.int .u8 122] 5 (1, 2))) := (Below.refl _ _).alloc (Nat.le_refl _) _
  have KB : IsB (w2.alloc (.cells #[.int .u8 122] 5 (1, 2))) (.slice (some ⟨w2.heap.size, 0, none⟩) 1 1) [122] := isB_const w2 [122] (Rng.cons (by omega) Rng.nil) (by decide) 5 (1, 2)
  have hcell : w2.cell? ⟨w.heap.size + 1, 0, none⟩ = some (.slice (some ⟨g, 0, none⟩) 2 cap) := by rw [cell_of_row w2 _ 0 _ _ _ HT2.out]; rfl
  have HF := Lib.hid (tFind_any (w.heap.size + 1) _ (.slice (some ⟨w2.heap.size, 0, none⟩) 1 1) [(1, [], [109], 2), (2, [109], [], 2)] [122] (w2.alloc (.cells #[.int .u8 122] 5 (1, 2))) ((ba.cell (p := ⟨w.heap.size + 1, 0, none⟩) zl).trans hcell) (by simp; omega) ((HO2.out.below ba).isRgs) KB (by intro x hx; simp only [List.mem_cons, List.not_mem_nil, or_false] at hx; rcases hx with rfl | rfl <;> simp))
  have G3 := Lib.hid (G2.out.trans (ba.mono G2.out.size))
  clear ba KB hcell
  go_wp2_with fail
  refine HF.out.mono ?_
  unfold OwnP
  rw [E3.out]
  rintro e w3 ⟨fv, tv, rfl, h1, h2, hb⟩
  obtain ⟨fo1, fc1, rfl, -, -, -, -⟩ := h1.form
  obtain ⟨to1, tc1, rfl, -, -, -, -⟩ := h2.form
  have G4 := Lib.hid (bel_call G3.out hb)
  clear h1 h2 hb HF
  go_wp2_with fail
  go_ret
  exact ⟨rfl, bel_alloc G4.out _⟩
end Rm
end Go.Proofs.Ytbeniogffhihlaa
