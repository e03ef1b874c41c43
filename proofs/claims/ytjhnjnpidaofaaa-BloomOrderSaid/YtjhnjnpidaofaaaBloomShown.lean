/- bloom: 'shown', and the walks of BloomHashes, BloomAsks. -/
import Derived.Test.YtjhnjnpidaofaaaBloom3
namespace Go.Proofs.Ytjhnjnpidaofaaa
open Go.RowKit
namespace Bloom
set_option maxHeartbeats 400000 in
theorem make31 (w : World) : Calls Try.prog 13 #[.slice none 0 0, .int .i64 31] w fun e w' => e = .returned (.tuple #[.slice none 0 0, .int .i64 1]) ∧ w = w' := by
  go_enter Try.func13, Try.ntmps13
  go_wp2_with fail
  go_ret2
  exact ⟨rfl, rfl⟩
def Make10 (w : World) (e : Ending) (w' : World) : Prop :=
  ∃ g, e = .returned (.tuple #[.slice (some ⟨g, 0, none⟩) 9 9, .int .i64 0]) ∧ g < w'.heap.size ∧ w'.cell? ⟨g, 0, none⟩ = some (.int .u8 6) ∧ IsB w' (.slice (some ⟨g, 0, none⟩) 9 9) [6, 0, 0, 0, 0, 0, 0, 0, 0] ∧ Below w.heap.size w w'
set_option maxHeartbeats 400000 in
theorem make10 (w : World) : Calls Try.prog 13 #[.slice none 0 0, .int .i64 10] w (Make10 w) := by
  have hmk : ∀ w, (Instr.makeSlice 22 (.int .i64 9) (.int .i64 9)).run Try.prog w = .ok (.slice (some ⟨w.heap.size, 0, none⟩) 9 9) (w.alloc (.cells #[.int .u8 0, .int .u8 0, .int .u8 0, .int .u8 0, .int .u8 0, .int .u8 0, .int .u8 0, .int .u8 0, .int .u8 0] 5)) := fun _ => by kernel_rfl
  go_enter Try.func13, Try.ntmps13
  go_wp2_with fail
  refine wp_loop_rounds 1 ?_
  rw [rounds_succ]; go_wp2_with fail
  go_ret2
  refine ⟨w.heap.size, rfl, by simp <;> omega, by go_simp, ?_, (by repeat' (first | (with_reducible exact Below.refl _ _) | (with_reducible assumption) | (with_reducible refine Below.drew ?_) | (with_reducible refine below_drewN ?_ _) | (with_reducible refine bel_alloc ?_ _) | (with_reducible refine Below.setCell ?_ ?_ _) | (with_reducible refine bel_call ?_ (by assumption)) | (simp <;> omega)))⟩
  refine IsB.of_own (base := w.heap.size) (e := 5) (n := 9) ?_ (by intro x hx; simp at hx; omega)
  exact (World.ownsRow_lit w _ 9 (Nat.le_refl _) (by simp [maxLen]) (by simp)).alloc _
theorem isB_lit1 (w : World) (x : Int) (hx : 0 ≤ x ∧ x ≤ 255) : IsB (w.alloc (.cells #[.int .u8 x] 5)) (.slice (some ⟨w.heap.size, 0, none⟩) 1 1) [x] :=
  IsB.of_own (base := w.heap.size) (e := 5) (n := 1) (World.ownsRow_lit w _ 1 (Nat.le_refl _) (by simp [maxLen]) (by simp)) (Rng.cons hx Rng.nil)
set_option maxHeartbeats 800000 in
theorem shown_any (w : World) : Calls Try.prog 8 #[] w (Ret (.bool true) w) := by
  have e1 : hashF [97] = 12638187200555641996 := by decide +kernel
  have e2 : mayF [6, 0, 0, 0, 0, 0, 0, 0, 0] [97] = false := by decide +kernel
  have e3 : mayF [] [97] = true := by decide +kernel
  have E1 := Lib.hid e1; have E2 := Lib.hid e2; have E3 := Lib.hid e3
  clear e1 e2 e3
  have kc := fun (w : World) (C : Array Value) (n c : Nat) => Lib.run_convert_bytes_const (P := Try.prog) w 22 5 C n c Try.underlying22 Try.underlying5
  go_enter Try.func8, Try.ntmps8
  go_wp2_with fail
  refine (hash_any _ [97] _ (isB_const w [97] (by intro x hx; simp at hx; omega) (by decide) 5 (1, 2))).mono ?_
  rw [E1.out]
  rintro e w1 ⟨rfl, rfl⟩
  go_wp2_with fail
  refine (make10 _).mono ?_
  rintro e w2 ⟨g, rfl, hg, hc, B2, hb2⟩
  have z2 := hb2.size; (try simp at z2)
  have gg : Below w.heap.size w w2 := (by repeat' (first | (with_reducible exact Below.refl _ _) | (with_reducible assumption) | (with_reducible refine Below.drew ?_) | (with_reducible refine below_drewN ?_ _) | (with_reducible refine bel_alloc ?_ _) | (with_reducible refine Below.setCell ?_ ?_ _) | (with_reducible refine bel_call ?_ (by assumption)) | (simp <;> omega)))
  have HB2 := Lib.hid B2
  clear hb2 B2
  go_wp2_with fail
  refine (make31 _).mono ?_
  rintro e w3 ⟨rfl, rfl⟩
  go_wp2_with fail
  refine (may_any _ _ _ [97] _ (HB2.out.alloc _) (isB_const w2 [97] (by intro x hx; simp at hx; omega) (by decide) 5 (1, 2)) (by decide)).mono ?_
  rw [E2.out]
  rintro e w4 ⟨rfl, hb4⟩
  have z4 := hb4.size; (try simp at z4)
  replace gg : Below w.heap.size w w4 := (by repeat' (first | (with_reducible exact Below.refl _ _) | (with_reducible assumption) | (with_reducible refine Below.drew ?_) | (with_reducible refine below_drewN ?_ _) | (with_reducible refine bel_alloc ?_ _) | (with_reducible refine Below.setCell ?_ ?_ _) | (with_reducible refine bel_call ?_ (by assumption)) | (simp <;> omega)))
  replace c0 : w4.cell? ⟨g, 0, none⟩ = some (.int .u8 6) := (hb4.cell (p := ⟨g, 0, none⟩) (by simp <;> omega)).trans (by go_simp)
  have hg4 : g < w4.heap.size := by omega
  clear hb4 hc hg
  go_wp2_with fail
  refine (may_any _ _ [] [97] _ (IsB.nil _) (isB_const w4 [97] (by intro x hx; simp at hx; omega) (by decide) 5 (1, 2)) (by decide)).mono ?_
  rw [E3.out]
  rintro e w5 ⟨rfl, hb5⟩
  replace c0 : w5.cell? ⟨g, 0, none⟩ = some (.int .u8 6) := (hb5.cell (p := ⟨g, 0, none⟩) (by simp <;> omega)).trans (by go_simp)
  replace gg : Below w.heap.size w w5 := (by repeat' (first | (with_reducible exact Below.refl _ _) | (with_reducible assumption) | (with_reducible refine Below.drew ?_) | (with_reducible refine below_drewN ?_ _) | (with_reducible refine bel_alloc ?_ _) | (with_reducible refine Below.setCell ?_ ?_ _) | (with_reducible refine bel_call ?_ (by assumption)) | (simp <;> omega)))
  clear hb5
  go_wp2_with fail
  go_ret
  exact ⟨rfl, gg⟩

set_option maxHeartbeats 400000 in
theorem hashes_walk (v : Value) (l : List Int) (w : World) (h : IsB w v l) : Calls Try.prog 3 #[v] w (Ret (.bool true) w) := by
  have HB := Lib.hid h
  clear h
  go_enter Try.func3, Try.ntmps3
  go_wp2_with fail
  refine (shown_any _).mono ?_
  rintro e w1 ⟨rfl, hb1⟩
  have HB1 := Lib.hid (HB.out.below hb1)
  go_wp2_with fail
  refine (rHash_any v l _ HB1.out).mono ?_
  rintro e w2 ⟨rfl, rfl⟩
  go_wp2_with fail
  refine (hash_any v l _ HB1.out).mono ?_
  rintro e w2 ⟨rfl, rfl⟩
  go_wp2_with fail
  go_ret
  exact ⟨rfl, hb1⟩

set_option maxHeartbeats 400000 in
theorem asks_walk (v u : Value) (l m : List Int) (w : World) (h : IsB w v l) (k : IsB w u m) (hl : l.length ≤ 140737488355328) : Calls Try.prog 5 #[v, u] w (Ret (.bool true) w) := by
  have HB := Lib.hid h
  have HK := Lib.hid k
  clear h k
  go_enter Try.func5, Try.ntmps5
  go_wp2_with fail
  refine (shown_any _).mono ?_
  rintro e w1 ⟨rfl, hb1⟩
  have HB1 := Lib.hid (HB.out.below hb1)
  have HK1 := Lib.hid (HK.out.below hb1)
  go_wp2_with fail
  refine (rMay_any v u l m _ HB1.out HK1.out hl).mono ?_
  rintro e w2 ⟨rfl, hb2⟩
  have HB2 := Lib.hid (HB1.out.below hb2)
  have HK2 := Lib.hid (HK1.out.below hb2)
  have gg : Below w.heap.size w w2 := (by repeat' (first | (with_reducible exact Below.refl _ _) | (with_reducible assumption) | (with_reducible refine Below.drew ?_) | (with_reducible refine below_drewN ?_ _) | (with_reducible refine bel_alloc ?_ _) | (with_reducible refine Below.setCell ?_ ?_ _) | (with_reducible refine bel_call ?_ (by assumption)) | (simp <;> omega)))
  clear hb1 hb2
  go_wp2_with fail
  refine (may_any v u l m _ HB2.out HK2.out hl).mono ?_
  rintro e w3 ⟨rfl, hb3⟩
  go_wp2_with fail
  go_ret
  exact ⟨rfl, (by repeat' (first | (with_reducible exact Below.refl _ _) | (with_reducible assumption) | (with_reducible refine Below.drew ?_) | (with_reducible refine below_drewN ?_ _) | (with_reducible refine bel_alloc ?_ _) | (with_reducible refine Below.setCell ?_ ?_ _) | (with_reducible refine bel_call ?_ (by assumption)) | (simp <;> omega)))⟩
end Bloom
end Go.Proofs.Ytjhnjnpidaofaaa
