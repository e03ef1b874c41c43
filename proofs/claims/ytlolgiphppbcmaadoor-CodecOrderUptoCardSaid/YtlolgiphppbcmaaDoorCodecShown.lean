/- codec: the document's examples. -/
import Derived.Test.YtlolgiphppbcmaaDoorCodecXW
import Derived.Test.YtlolgiphppbcmaaDoorCodecK
import Derived.Test.YtlolgiphppbcmaaDoorCodecRT
import Derived.Test.YtlolgiphppbcmaaDoorCodecS
import Derived.Test.YtlolgiphppbcmaaDoorCodecC
namespace Go.Proofs.YtlolgiphppbcmaaDoor
open Go.RowKit
namespace Codec
theorem num300 : numN 300 = [172, 2] := by rw [numN_hi (by decide), numN_lo (by decide)]; rfl
theorem isB_lit_on (w : World) (o : Obj) (l : List Int) (hr : Rng l) (hl : l.length ≤ 9223372036854775807) (e : TypeId) : IsB ((w.alloc o).alloc (.cells (l.map (Value.int .u8)).toArray e)) (.slice (some ⟨w.heap.size + 1, 0, none⟩) l.length l.length) l := by
  have h := isB_const (w.alloc o) l hr hl e (0, 0)
  have e : (w.alloc o).heap.size = w.heap.size + 1 := by simp
  rw [e] at h
  exact h
set_option maxRecDepth 100000 in
set_option maxHeartbeats 2000000 in
theorem shown_any (w : World) : Calls Tryd.prog 6 #[] w (Ret (.bool true) w) := by
  have e1 : takeN [172, 2, 7] = (300, 2, 0) := by decide +kernel
  have e2 : sumF [49, 50, 51, 52, 53, 54, 55, 56, 57] = 3421780262 := by decide +kernel
  have e3 : tkL [97, 0, 255, 98, 0, 1, 5] = ([97, 0, 98], 6, 0) := by simp [tkL]
  have E1 := Lib.hid e1; have E2 := Lib.hid e2; have E3 := Lib.hid e3
  clear e1 e2 e3
  have kc := fun (w : World) (C : Array Value) (n c : Nat) => Lib.run_convert_bytes_const (P := Tryd.prog) w 23 5 C n c Tryd.underlying23 Tryd.underlying5
  go_enter Tryd.func6, Tryd.ntmps6
  go_wp2_with fail
  refine (takeNumber_any _ [172, 2, 7] _ (IsB.of_own (base := w.heap.size) (e := 5) (n := 3) (World.ownsRow_lit w _ 3 (Nat.le_refl _) (by simp [maxLen]) (by simp)) (by intro x hx; simp at hx; omega))).mono ?_
  rw [E1.out]
  rintro e w1 ⟨rfl, rfl⟩
  go_wp2_with fail
  refine (number_any 300 _ (by decide)).mono ?_
  unfold NumPost
  rw [num300]
  rintro e w2 ⟨nv, rfl, hnv, g2⟩
  have HN := Lib.hid hnv
  have gg : Below w.heap.size w w2 := bel_call (by repeat' (first | (with_reducible exact Below.refl _ _) | (with_reducible assumption) | (with_reducible refine Below.drew ?_) | (with_reducible refine below_drewN ?_ _) | (with_reducible refine bel_alloc ?_ _) | (with_reducible refine Below.setCell ?_ ?_ _) | (with_reducible refine bel_call ?_ (by assumption)) | (simp <;> omega))) g2
  have z2 := g2.size; (try simp at z2)
  clear hnv g2
  go_wp2_with fail
  refine (sum_any _ [49, 50, 51, 52, 53, 54, 55, 56, 57] _ (isB_const w2 [49, 50, 51, 52, 53, 54, 55, 56, 57] (by intro x hx; simp at hx; omega) (by decide) 5 (9, 10))).mono ?_
  rw [E2.out]
  rintro e w3 ⟨rfl, rfl⟩
  go_wp2_with fail
  refine (takeKeyText_any (.slice (some ⟨w2.heap.size + 1, 0, none⟩) 7 7) [97, 0, 255, 98, 0, 1, 5] _ ?_ (by decide)).mono ?_
  · exact isB_lit_on w2 _ [97, 0, 255, 98, 0, 1, 5] (by intro x hx; simp at hx; omega) (by decide) 5
  unfold TkPost
  rw [E3.out]
  rintro e w4 ⟨kv, rfl, hkv, g4⟩
  have HK := Lib.hid hkv
  have gg2 : Below w2.heap.size w2 w4 := bel_call (by repeat' (first | (with_reducible exact Below.refl _ _) | (with_reducible assumption) | (with_reducible refine Below.drew ?_) | (with_reducible refine below_drewN ?_ _) | (with_reducible refine bel_alloc ?_ _) | (with_reducible refine Below.setCell ?_ ?_ _) | (with_reducible refine bel_call ?_ (by assumption)) | (simp <;> omega))) g4
  have z4 := g4.size; (try simp at z4)
  clear hkv g4
  go_wp2_with fail
  refine (keyInt_any (-1) _ (by decide)).mono ?_
  unfold KeyPost
  rintro e w5 ⟨iv, rfl, hiv, g5⟩
  have HV := Lib.hid hiv
  have HK5 := Lib.hid (HK.out.below g5)
  have HN5 := Lib.hid (HN.out.below (bel_call gg2 g5))
  have GG := Lib.hid (bel_call (bel_call gg gg2) g5)
  obtain ⟨ia, icap, rfl, _, _, hq1, hq2⟩ := own_form hiv
  clear hq1 hq2
  obtain ⟨g0, x0, rfl, _, _, hx0, hc0, _⟩ := own_at hiv (k := 0) (by decide)
  obtain ⟨g1, x1, hg1, _, _, hx1, hc1, _⟩ := own_at hiv (k := 7) (by decide)
  cases hg1
  have hx0' := hx0.out
  have hx1' := hx1.out
  have e0 : keyL (-1) = [127, 255, 255, 255, 255, 255, 255, 255] := by decide
  rw [e0] at hx0' hx1'
  simp only [List.map_cons, List.getElem?_cons_zero, List.getElem?_cons_succ, Option.some.injEq] at hx0' hx1'
  subst hx0' hx1'
  have c1 := HN5.out.isB.conv Tryd.underlying23 Tryd.underlying5 Tryd.underlying9
  have c2 := HK5.out.isB.conv Tryd.underlying23 Tryd.underlying5 Tryd.underlying9
  have s1 : (strOfNums [172, 2]).toList = [172, 2] := by rw [ByteArray.toList_eq, strOfNums_data]; rfl
  have s2 : (strOfNums [97, 0, 98]).toList = [97, 0, 98] := by rw [ByteArray.toList_eq, strOfNums_data]; rfl
  clear hiv hx0 hx1 g5 e0 gg gg2
  go_wp2_with fail
  go_ret
  exact ⟨rfl, GG.out⟩
end Codec
end Go.Proofs.YtlolgiphppbcmaaDoor
