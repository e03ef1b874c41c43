/- HlcBytes and HlcSorts: the walks. -/
import Derived.Test.YtogooghigeemaaaHlcR
namespace Go.Proofs.Ytogooghigeemaaa
open Go.RowKit
namespace Hlc
/-- any list of bytes as a stamp -/
def readL (l : List Int) : Int × Int × Int :=
  if l.length = 9 then readF (l.getD 0 0) (l.getD 1 0) (l.getD 2 0) (l.getD 3 0) (l.getD 4 0) (l.getD 5 0) (l.getD 6 0) (l.getD 7 0) (l.getD 8 0) else (0, 0, 80)
theorem nine : ∀ {l : List Int}, l.length = 9 → l = [l.getD 0 0, l.getD 1 0, l.getD 2 0, l.getD 3 0, l.getD 4 0, l.getD 5 0, l.getD 6 0, l.getD 7 0, l.getD 8 0]
  | [_, _, _, _, _, _, _, _, _], _ => rfl
theorem read_any (v : Value) (l : List Int) (w : World) (h : IsB w v l) : Calls Try.prog 12 #[v] w (Ret (vse (readL l)) w) := by
  by_cases hl : l.length = 9
  · have hh := h
    obtain ⟨hr, ao, cap, rfl, h2, h3, h4, h5⟩ := h
    unfold readL
    rw [if_pos hl]
    rcases ao with _ | ⟨p, o, s⟩
    · have := (h4 rfl).1; subst this; simp at hl
    · obtain ⟨k1, k2, k3⟩ := h5 _ rfl (by omega)
      simp only at k1 k2 k3
      subst k1
      rw [hl]
      have hh' : IsB w (.slice (some ⟨p, o, none⟩) 9 cap) [l.getD 0 0, l.getD 1 0, l.getD 2 0, l.getD 3 0, l.getD 4 0, l.getD 5 0, l.getD 6 0, l.getD 7 0, l.getD 8 0] := by rw [← nine hl, ← hl]; exact hh
      exact read_ok p o cap _ _ _ _ _ _ _ _ _ w (by omega) k2 hh' (k3 0 (by omega)) (k3 1 (by omega)) (k3 2 (by omega)) (k3 3 (by omega)) (k3 4 (by omega)) (k3 5 (by omega)) (k3 6 (by omega)) (k3 7 (by omega)) (k3 8 (by omega))
        (hr.getD 0) (hr.getD 1) (hr.getD 2) (hr.getD 3) (hr.getD 4) (hr.getD 5) (hr.getD 6) (hr.getD 7) (hr.getD 8)
  · unfold readL
    rw [if_neg hl]
    exact read_bad v l w h hl
theorem rRead_any (v : Value) (l : List Int) (w : World) (h : IsB w v l) : Calls Try.prog 13 #[v] w (Ret (vse (readL l)) w) := by
  by_cases hl : l.length = 9
  · have hh := h
    obtain ⟨hr, ao, cap, rfl, h2, h3, h4, h5⟩ := h
    unfold readL
    rw [if_pos hl]
    rcases ao with _ | ⟨p, o, s⟩
    · have := (h4 rfl).1; subst this; simp at hl
    · obtain ⟨k1, k2, k3⟩ := h5 _ rfl (by omega)
      simp only at k1 k2 k3
      subst k1
      rw [hl]
      have hh' : IsB w (.slice (some ⟨p, o, none⟩) 9 cap) [l.getD 0 0, l.getD 1 0, l.getD 2 0, l.getD 3 0, l.getD 4 0, l.getD 5 0, l.getD 6 0, l.getD 7 0, l.getD 8 0] := by rw [← nine hl, ← hl]; exact hh
      exact rRead_ok p o cap _ _ _ _ _ _ _ _ _ w (by omega) k2 hh' (k3 0 (by omega)) (k3 1 (by omega)) (k3 2 (by omega)) (k3 3 (by omega)) (k3 4 (by omega)) (k3 5 (by omega)) (k3 6 (by omega)) (k3 7 (by omega)) (k3 8 (by omega))
        (hr.getD 0) (hr.getD 1) (hr.getD 2) (hr.getD 3) (hr.getD 4) (hr.getD 5) (hr.getD 6) (hr.getD 7) (hr.getD 8)
  · unfold readL
    rw [if_neg hl]
    exact rRead_bad v l w h hl
/-- what Bytes answers to any stamp -/
def bytesA (a b : Int) : List Int := if right a b = true then bytesL a b else []
def bytesE (a b : Int) : Int := if right a b = true then 0 else 80
def BytesAny (a b : Int) (w : World) (e : Ending) (w' : World) : Prop :=
  ∃ v, e = .returned (.tuple #[v, .int .i64 (bytesE a b)]) ∧ IsB w' v (bytesA a b) ∧ Below w.heap.size w w'
theorem bytes_any (a b : Int) (w : World) : Calls Try.prog 10 #[.agg #[.int .i64 a, .int .i64 b]] w (BytesAny a b w) := by
  by_cases h : right a b = true
  · refine (bytes_ok a b w h).mono ?_
    rintro e w' ⟨v, rfl, own, hb⟩
    refine ⟨v, by rw [bytesE, if_pos h], ?_, hb⟩
    rw [bytesA, if_pos h]
    exact IsB.of_own own (bytesL_rng h)
  · refine (bytes_bad a b w (by simpa using h)).mono ?_
    rintro e w' ⟨rfl, hb⟩
    refine ⟨_, by rw [bytesE, if_neg h], ?_, hb⟩
    rw [bytesA, if_neg h]
    exact IsB.nil _
theorem rBytes_any (a b : Int) (w : World) : Calls Try.prog 11 #[.agg #[.int .i64 a, .int .i64 b]] w (BytesAny a b w) := by
  by_cases h : right a b = true
  · refine (rBytes_ok a b w h).mono ?_
    rintro e w' ⟨v, rfl, own, hb⟩
    refine ⟨v, by rw [bytesE, if_pos h], ?_, hb⟩
    rw [bytesA, if_pos h]
    exact IsB.of_own own (bytesL_rng h)
  · refine (rBytes_bad a b w (by simpa using h)).mono ?_
    rintro e w' ⟨rfl, hb⟩
    refine ⟨_, by rw [bytesE, if_neg h], ?_, hb⟩
    rw [bytesA, if_neg h]
    exact IsB.nil _

set_option maxHeartbeats 1000000 in
theorem bytes_walk (a b : Int) (v : Value) (l : List Int) (w : World) (h : IsB w v l) :
    Calls Try.prog 3 #[.agg #[.int .i64 a, .int .i64 b], v] w (Ret (.bool true) w) := by
  have HB := Lib.hid h
  clear h
  go_enter Try.func3, Try.ntmps3
  go_wp2_with fail
  refine (awake_any _).mono ?_
  rintro e w1 ⟨rfl, hb1⟩
  replace k0 : w1.cell? ⟨w.heap.size, 0, none⟩ = some (.int .i64 a) := (hb1.cell (p := ⟨w.heap.size, 0, none⟩) (by simp <;> omega)).trans (by go_simp); replace k1 : w1.cell? ⟨w.heap.size, 1, none⟩ = some (.int .i64 b) := (hb1.cell (p := ⟨w.heap.size, 1, none⟩) (by simp <;> omega)).trans (by go_simp)
  have z1 := hb1.size; (try simp at z1)
  have zz : w.heap.size ≤ w1.heap.size := by omega
  replace y0 : w.heap.size < w1.heap.size := by omega
  replace gg : Below w.heap.size w w1 := (by repeat' (first | (with_reducible exact Below.refl _ _) | (with_reducible assumption) | (with_reducible refine Below.drew ?_) | (with_reducible refine below_drewN ?_ _) | (with_reducible refine bel_alloc ?_ _) | (with_reducible refine Below.setCell ?_ ?_ _) | (with_reducible refine bel_call ?_ (by assumption)) | (simp <;> omega)))
  clear hb1
  go_wp2_with fail
  refine (bytes_any a b _).mono ?_
  rintro e w2 ⟨v2, rfl, B2, hb2⟩
  replace k0 : w2.cell? ⟨w.heap.size, 0, none⟩ = some (.int .i64 a) := (hb2.cell (p := ⟨w.heap.size, 0, none⟩) (by simp <;> omega)).trans (by go_simp); replace k1 : w2.cell? ⟨w.heap.size, 1, none⟩ = some (.int .i64 b) := (hb2.cell (p := ⟨w.heap.size, 1, none⟩) (by simp <;> omega)).trans (by go_simp)
  have z2 := hb2.size
  replace y0 : w.heap.size < w2.heap.size := by omega
  replace gg : Below w.heap.size w w2 := (by repeat' (first | (with_reducible exact Below.refl _ _) | (with_reducible assumption) | (with_reducible refine Below.drew ?_) | (with_reducible refine below_drewN ?_ _) | (with_reducible refine bel_alloc ?_ _) | (with_reducible refine Below.setCell ?_ ?_ _) | (with_reducible refine bel_call ?_ (by assumption)) | (simp <;> omega)))
  have HB2 := Lib.hid B2
  clear hb2 B2
  go_wp2_with fail
  refine (rBytes_any a b _).mono ?_
  rintro e w3 ⟨v3, rfl, B3, hb3⟩
  replace k0 : w3.cell? ⟨w.heap.size, 0, none⟩ = some (.int .i64 a) := (hb3.cell (p := ⟨w.heap.size, 0, none⟩) (by simp <;> omega)).trans (by go_simp); replace k1 : w3.cell? ⟨w.heap.size, 1, none⟩ = some (.int .i64 b) := (hb3.cell (p := ⟨w.heap.size, 1, none⟩) (by simp <;> omega)).trans (by go_simp)
  have z3 := hb3.size
  replace y0 : w.heap.size < w3.heap.size := by omega
  replace gg : Below w.heap.size w w3 := (by repeat' (first | (with_reducible exact Below.refl _ _) | (with_reducible assumption) | (with_reducible refine Below.drew ?_) | (with_reducible refine below_drewN ?_ _) | (with_reducible refine bel_alloc ?_ _) | (with_reducible refine Below.setCell ?_ ?_ _) | (with_reducible refine bel_call ?_ (by assumption)) | (simp <;> omega)))
  replace HB2 := Lib.hid (HB2.out.below hb3)
  have HB3 := Lib.hid B3
  clear hb3 B3
  go_wp2_with fail
  refine (read_any v l _ (HB.out.below gg)).mono ?_
  rintro e w4 ⟨rfl, hb4⟩
  have z4 := hb4.size
  replace gg : Below w.heap.size w w4 := (by repeat' (first | (with_reducible exact Below.refl _ _) | (with_reducible assumption) | (with_reducible refine Below.drew ?_) | (with_reducible refine below_drewN ?_ _) | (with_reducible refine bel_alloc ?_ _) | (with_reducible refine Below.setCell ?_ ?_ _) | (with_reducible refine bel_call ?_ (by assumption)) | (simp <;> omega)))
  replace HB2 := Lib.hid (HB2.out.below hb4)
  replace HB3 := Lib.hid (HB3.out.below hb4)
  clear hb4 k0 k1 y0
  unfold vse
  go_wp2_with fail
  refine (rRead_any v l _ (HB.out.below (by repeat' (first | (with_reducible exact Below.refl _ _) | (with_reducible assumption) | (with_reducible refine Below.drew ?_) | (with_reducible refine below_drewN ?_ _) | (with_reducible refine bel_alloc ?_ _) | (with_reducible refine Below.setCell ?_ ?_ _) | (with_reducible refine bel_call ?_ (by assumption)) | (simp <;> omega))))).mono ?_
  rintro e w5 ⟨rfl, hb5⟩
  replace k0 : w5.cell? ⟨w4.heap.size, 0, none⟩ = some (.int .i64 (readL l).1) := (hb5.cell (p := ⟨w4.heap.size, 0, none⟩) (by simp <;> omega)).trans (by go_simp); replace k1 : w5.cell? ⟨w4.heap.size, 1, none⟩ = some (.int .i64 (readL l).2.1) := (hb5.cell (p := ⟨w4.heap.size, 1, none⟩) (by simp <;> omega)).trans (by go_simp)
  have z5 := hb5.size; (try simp at z5)
  have y0 : w4.heap.size < w5.heap.size := by omega
  replace gg : Below w.heap.size w w5 := (by repeat' (first | (with_reducible exact Below.refl _ _) | (with_reducible assumption) | (with_reducible refine Below.drew ?_) | (with_reducible refine below_drewN ?_ _) | (with_reducible refine bel_alloc ?_ _) | (with_reducible refine Below.setCell ?_ ?_ _) | (with_reducible refine bel_call ?_ (by assumption)) | (simp <;> omega)))
  have B2 := (HB2.out.alloc _).below hb5
  have B3 := (HB3.out.alloc _).below hb5
  clear hb5 HB2 HB3
  have h1 := (B2.alloc (.cells #[.int .i64 (readL l).1, .int .i64 (readL l).2.1] 23)).conv (P := Try.prog) Try.underlying24 Try.underlying5 Try.underlying9
  have h2 := (B3.alloc (.cells #[.int .i64 (readL l).1, .int .i64 (readL l).2.1] 23)).conv (P := Try.prog) Try.underlying24 Try.underlying5 Try.underlying9
  clear B2 B3
  unfold vse
  go_wp2_with fail
  go_ret
  exact ⟨rfl, (by repeat' (first | (with_reducible exact Below.refl _ _) | (with_reducible assumption) | (with_reducible refine Below.drew ?_) | (with_reducible refine below_drewN ?_ _) | (with_reducible refine bel_alloc ?_ _) | (with_reducible refine Below.setCell ?_ ?_ _) | (with_reducible refine bel_call ?_ (by assumption)) | (simp <;> omega)))⟩
end Hlc
end Go.Proofs.Ytogooghigeemaaa
