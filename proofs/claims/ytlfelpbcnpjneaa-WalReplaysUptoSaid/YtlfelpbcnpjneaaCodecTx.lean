/- codec: Text of both; length. -/
import Derived.Test.YtlfelpbcnpjneaaCat
import Derived.Test.YtlfelpbcnpjneaaCodecRT
namespace Go.Proofs.Ytlfelpbcnpjneaa
open Go.RowKit
theorem isBB_lit {w : World} (us : List Value) (ls : List (List Int)) (e : TypeId) (hl : us.length = ls.length) (hm : us.length ≤ 9223372036854775807) (h : ∀ (i : Nat) u l, us[i]? = some u → ls[i]? = some l → IsB w u l) :
    IsBB (w.alloc (.cells us.toArray e)) (.slice (some ⟨w.heap.size, 0, none⟩) us.length us.length) ls := by
  refine ⟨_, us.length, by rw [hl], by omega, by unfold maxLen; omega, fun hn => (by cases hn), fun a ha hp => ?_⟩
  cases ha
  refine ⟨rfl, by simp, fun i l hi => ?_⟩
  have hil : i < us.length := by have := (List.getElem?_eq_some_iff.1 hi).1; omega
  have hu : us[i]? = some (us[i]) := List.getElem?_eq_getElem hil
  refine ⟨us[i], ?_, (h i _ l hu hi).alloc _⟩
  show (w.alloc _).cell? ⟨w.heap.size, 0 + i, none⟩ = _
  rw [Nat.zero_add, cell_of_row _ w.heap.size i _ e (0, 0) (heap_alloc_new w _)]
  simp [hu]
theorem isBB_two {w : World} {u v : Value} {a b : List Int} (e : TypeId) (h : IsB w u a) (k : IsB w v b) : IsBB (w.alloc (.cells #[u, v] e)) (.slice (some ⟨w.heap.size, 0, none⟩) 2 2) [a, b] :=
  isBB_lit [u, v] [a, b] e rfl (by simp) (fun i x l hx hl => by
    match i, hx, hl with
    | 0, hx, hl => cases hx; cases hl; exact h
    | 1, hx, hl => cases hx; cases hl; exact k)
theorem isBB_three {w : World} {u v x : Value} {a b c : List Int} (e : TypeId) (h : IsB w u a) (k : IsB w v b) (m : IsB w x c) : IsBB (w.alloc (.cells #[u, v, x] e)) (.slice (some ⟨w.heap.size, 0, none⟩) 3 3) [a, b, c] :=
  isBB_lit [u, v, x] [a, b, c] e rfl (by simp) (fun i y l hy hl => by
    match i, hy, hl with
    | 0, hy, hl => cases hy; cases hl; exact h
    | 1, hy, hl => cases hy; cases hl; exact k
    | 2, hy, hl => cases hy; cases hl; exact m)
namespace Codec
def TextPost (l : List Int) (w : World) (e : Ending) (w' : World) : Prop :=
  ∃ v, e = .returned (.tuple #[v, .int .i64 0]) ∧ w'.ownsRow w.heap.size 5 1 v (numN l.length ++ l).length ((numN l.length ++ l).map (Value.int .u8)) ∧ Below w.heap.size w w'
set_option maxHeartbeats 400000 in
theorem text_long (v : Value) (l : List Int) (w : World) (h : IsB w v l) (hl : 2097152 < l.length) : Calls Try.prog 31 #[v] w fun e w' => e = .returned (.tuple #[.slice none 0 0, .int .i64 12]) ∧ w = w' := by
  have hm := h.max
  obtain ⟨ao, cap, rfl, _, _, _⟩ := h.form
  clear h
  go_enter Try.func31, Try.ntmps31
  go_wp2_with fail
  go_ret2
  exact ⟨rfl, rfl⟩
set_option maxHeartbeats 400000 in
theorem rText_long (v : Value) (l : List Int) (w : World) (h : IsB w v l) (hl : 2097152 < l.length) : Calls Try.prog 28 #[v] w fun e w' => e = .returned (.tuple #[.slice none 0 0, .int .i64 12]) ∧ w = w' := by
  have hm := h.max
  obtain ⟨ao, cap, rfl, _, _, _⟩ := h.form
  clear h
  go_enter Try.func28, Try.ntmps28
  go_wp2_with fail
  go_ret2
  exact ⟨rfl, rfl⟩
set_option maxHeartbeats 1000000 in
theorem text_ok (v : Value) (l : List Int) (w : World) (h : IsB w v l) (hl : l.length ≤ 2097152) : Calls Try.prog 31 #[v] w (TextPost l w) := by
  obtain ⟨ao, cap, rfl, _, _, _⟩ := h.form
  have HB := Lib.hid h
  have h10 := numN_len10 (n := l.length) (by omega)
  have H10 := Lib.hid h10
  clear h h10
  go_enter Try.func31, Try.ntmps31
  go_wp2_with fail
  refine (number_any l.length _ (by omega)).mono ?_
  unfold NumPost
  rintro e w1 ⟨nv, rfl, hnv, g1⟩
  have HN := Lib.hid hnv
  have HB1 := Lib.hid (HB.out.below g1)
  have G1 := Lib.hid g1
  obtain ⟨no, ncap, rfl, _, _, hq1, hq2⟩ := hnv.form
  have HBB := Lib.hid (isBB_two 28 HN.out.isB HB1.out)
  clear hnv g1 hq1 hq2
  go_wp2_with fail
  refine (concat_any _ [numN l.length, l] _ HBB.out (by unfold catLen; simp; have := H10.out; omega)).mono ?_
  unfold CatPost
  rintro e w2 ⟨cv, rfl, hcv, g2⟩
  have HC := Lib.hid hcv
  have G2 := Lib.hid (bel_call (bel_alloc G1.out _) g2)
  have z2 := G1.out.size
  clear hcv g2
  go_wp2_with fail
  go_ret2
  have e2 : [numN l.length, l].flatten = numN l.length ++ l := by simp
  have h3 := HC.out
  rw [e2] at h3
  exact ⟨_, rfl, own_mono h3 (by simp; omega), G2.out⟩
set_option maxHeartbeats 1000000 in
theorem rText_ok (v : Value) (l : List Int) (w : World) (h : IsB w v l) (hl : l.length ≤ 2097152) : Calls Try.prog 28 #[v] w (TextPost l w) := by
  obtain ⟨ao, cap, rfl, _, _, _⟩ := h.form
  have HB := Lib.hid h
  have h10 := numN_len10 (n := l.length) (by omega)
  obtain ⟨i0, hi0, hz0, hz1, hz2⟩ := info_parts infoU8
  have HI := Lib.hid hi0; have HZ0 := Lib.hid hz0; have HZ1 := Lib.hid hz1; have HZ2 := Lib.hid hz2
  clear hi0 hz0 hz1 hz2 h
  go_enter Try.func28, Try.ntmps28
  go_wp2_with fail
  refine (rNumber_any l.length _ (by omega)).mono ?_
  unfold RNumPost
  rintro e w1 ⟨nv, rfl, hnv, g1⟩
  have HN := Lib.hid hnv
  have HB1 := Lib.hid (HB.out.below g1)
  have G1 := Lib.hid g1
  have z1 := g1.size
  obtain ⟨no, ncap, rfl, _, _, hq1, hq2⟩ := own_form hnv
  clear hnv g1 hq1 hq2
  go_wp2_with (at_builtin; refine wpList_append_bytes (base := w.heap.size) (.tmp 12) (.tmp 13) _ rfl rfl i0 _ Try.underlying28 HI.out HZ0.out HZ1.out HZ2.out rfl _ (numN l.length) l rfl rfl HN.out HB1.out (by omega) z1 ?_; intro v2 w2 hown2 hb2; have HO2 := Lib.hid hown2; have HB2 := Lib.hid (G1.out.trans hb2); clear hown2 hb2)
  go_ret2
  exact ⟨_, rfl, by rw [List.length_append]; exact HO2.out, HB2.out⟩
end Codec
end Go.Proofs.Ytlfelpbcnpjneaa
