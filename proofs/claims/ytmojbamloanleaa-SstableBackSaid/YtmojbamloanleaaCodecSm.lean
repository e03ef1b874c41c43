/- codec: sums of both; Four. -/
import Derived.Test.YtmojbamloanleaaCodecS
set_option linter.unusedVariables false
set_option linter.unusedSimpArgs false
namespace Go.Proofs.Ytmojbamloanleaa
open Go.RowKit
namespace Codec
def sumsF (a b : List Int) : Int := bits .xor .u32 (regF (regF 4294967295 a) b) 4294967295
def le4 (c : Int) : List Int := [c % 256, c / 256 % 256, c / 65536 % 256, c / 16777216 % 256]
theorem le4_rng (c : Int) : Rng (le4 c) := by
  intro x hx
  simp [le4] at hx
  omega
theorem le4_len (c : Int) : (le4 c).length = 4 := rfl
theorem sumsF_rng (a b : List Int) : U32 (sumsF a b) := bits_u32_rng _ _ _
def SumsPost (c : Int) (w : World) (e : Ending) (w' : World) : Prop :=
  ∃ v, e = .returned v ∧ w'.ownsRow w.heap.size 5 1 v 4 ((le4 c).map (Value.int .u8)) ∧ Below w.heap.size w w'
set_option maxHeartbeats 400000 in
theorem four_any (c : Int) (w : World) (h : U32 c) : Calls Try.prog 62 #[.int .u32 c] w (SumsPost c w) := by
  have hc : 0 ≤ c ∧ c ≤ 4294967295 := h
  have e1 : c / 16777216 % 256 = c / 16777216 := by omega
  have E1 := Lib.hid e1
  clear h e1
  go_enter Try.func62, Try.ntmps62
  go_wp2_with fail
  go_ret
  refine ⟨_, rfl, ?_, (by repeat' (first | (with_reducible exact Below.refl _ _) | (with_reducible assumption) | (with_reducible refine Below.drew ?_) | (with_reducible refine below_drewN ?_ _) | (with_reducible refine bel_alloc ?_ _) | (with_reducible refine Below.setCell ?_ ?_ _) | (with_reducible refine bel_call ?_ (by assumption)) | (simp <;> omega)))⟩
  unfold le4
  rw [E1.out]
  exact World.ownsRow_lit w _ 4 (Nat.le_refl _) (by simp [maxLen]) (by simp)
set_option maxHeartbeats 400000 in
theorem rsums_any (v u : Value) (l m : List Int) (w : World) (h : IsB w v l) (k : IsB w u m) :
    Calls Try.prog 93 #[v, u] w (SumsPost (sumsF l m) w) := by
  have HC := Lib.hid (rsum_any v l 4294967295 w h (by unfold U32; decide))
  have HD := Lib.hid (rsum_any u m (regF 4294967295 l) w k (regF_rng (by unfold U32; decide) l))
  have HS : sumsF l m = bits .xor .u32 (regF (regF 4294967295 l) m) 4294967295 := rfl
  have HF := Lib.hid (four_any (sumsF l m) w (sumsF_rng l m))
  rw [HS] at HF ⊢
  clear h k HS
  go_enter Try.func93, Try.ntmps93
  go_wp2_with fail
  refine HC.out.mono ?_
  rintro e w1 ⟨rfl, rfl⟩
  go_wp2_with fail
  refine HD.out.mono ?_
  rintro e w1 ⟨rfl, rfl⟩
  go_wp2_with fail
  refine HF.out.mono ?_
  unfold SumsPost
  rintro e w1 ⟨r, rfl, h1, h2⟩
  have H1 := Lib.hid h1
  have H2 := Lib.hid h2
  obtain ⟨_, _, rfl, _, _, _, _⟩ := own_form h1
  clear h1 h2
  go_wp2_with fail
  go_ret
  exact ⟨_, rfl, H1.out, H2.out⟩
set_option maxHeartbeats 400000 in
theorem sums_any (v u : Value) (l m : List Int) (w : World) (h : IsB w v l) (k : IsB w u m) :
    Calls Try.prog 73 #[v, u] w (SumsPost (sumsF l m) w) := by
  have HC := Lib.hid (register_any v l 4294967295 w h (by unfold U32; decide))
  have HD := Lib.hid (register_any u m (regF 4294967295 l) w k (regF_rng (by unfold U32; decide) l))
  have HS : sumsF l m = bits .xor .u32 IntKind.u32.max (regF (regF 4294967295 l) m) := xor_comm32 _ _
  have hr := sumsF_rng l m
  have hc : 0 ≤ sumsF l m ∧ sumsF l m ≤ 4294967295 := hr
  generalize sumsF l m = c at HS hc
  have HSS := Lib.hid HS
  clear h k HS hr
  go_enter Try.func73, Try.ntmps73
  go_wp2_with fail
  refine HC.out.mono ?_
  rintro e w1 ⟨rfl, rfl⟩
  go_wp2_with fail
  refine HD.out.mono ?_
  rintro e w1 ⟨rfl, rfl⟩
  go_wp2_with fail
  go_ret
  rw [← HSS.out]
  refine ⟨_, rfl, ?_, (by repeat' (first | (with_reducible exact Below.refl _ _) | (with_reducible assumption) | (with_reducible refine Below.drew ?_) | (with_reducible refine below_drewN ?_ _) | (with_reducible refine bel_alloc ?_ _) | (with_reducible refine Below.setCell ?_ ?_ _) | (with_reducible refine bel_call ?_ (by assumption)) | (simp <;> omega)))⟩
  exact World.ownsRow_lit w _ 4 (Nat.le_refl _) (by simp [maxLen]) (by simp)
end Codec
end Go.Proofs.Ytmojbamloanleaa
