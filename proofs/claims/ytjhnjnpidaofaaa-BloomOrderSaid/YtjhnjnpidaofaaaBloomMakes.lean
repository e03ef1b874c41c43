/- bloom: Make of any arguments; the walk of BloomMakes. -/
import Derived.Test.YtjhnjnpidaofaaaBloomLent
import Derived.Test.YtjhnjnpidaofaaaBloomShown
namespace Go.Proofs.Ytjhnjnpidaofaaa
open Go.RowKit
namespace Bloom
theorem bits_u8_rng (op : BinOp) (x y : Int) : 0 ≤ bits op .u8 x y ∧ bits op .u8 x y ≤ 255 := by
  unfold bits
  simp [IntKind.wrap, IntKind.bits, IntKind.signed]; omega
theorem setBit_rng {f : List Int} (h : Rng f) (n : Int) : Rng (setBit f n) := by
  intro x hx
  unfold setBit at hx
  rcases List.mem_or_eq_of_mem_set hx with h1 | h1
  · exact h x h1
  · rw [h1]; exact bits_u8_rng _ _ _
theorem setAll_rng {f : List Int} (h : Rng f) (l : List Int) (m : Int) : ∀ k, Rng (setAll f l m k)
  | 0 => h
  | k + 1 => setBit_rng (setAll_rng h l m k) _
theorem fill_rng (m : Int) (p : Nat) : ∀ (ls : List (List Int)) {f : List Int}, Rng f → Rng (fill ls m p f)
  | [], _, h => h
  | l :: ls, _, h => fill_rng m p ls (setAll_rng h l m p)
theorem makeF_rng {ls : List (List Int)} {q : Int} (h : okArgs ls q) : Rng (makeF ls q) := by
  refine fill_rng _ _ _ fun x hx => ?_
  rcases List.mem_or_eq_of_mem_set hx with h1 | h1
  · have := (List.mem_replicate.1 h1).2; omega
  · obtain ⟨⟨k1, k2⟩, _⟩ := h
    unfold probesF at h1; omega
theorem makeF_len {ls : List (List Int)} {q : Int} : (makeF ls q).length = 1 + 8 * (wordsF ls.length q).toNat := by
  unfold makeF; rw [fill_len]; simp
open Classical in
noncomputable def filt (ls : List (List Int)) (q : Int) : List Int := if okArgs ls q then makeF ls q else []
open Classical in
noncomputable def errF (ls : List (List Int)) (q : Int) : Int := if okArgs ls q then 0 else 1
theorem filt_rng (ls : List (List Int)) (q : Int) : Rng (filt ls q) := by
  unfold filt
  split
  · rename_i h; exact makeF_rng h
  · exact Rng.nil
def MakeAny (ls : List (List Int)) (q : Int) (w : World) (e : Ending) (w' : World) : Prop :=
  ∃ fv, e = .returned (.tuple #[fv, .int .i64 (errF ls q)]) ∧ w'.ownsRow w.heap.size 5 1 fv (filt ls q).length ((filt ls q).map (Value.int .u8)) ∧ Below w.heap.size w w'
theorem make_any (v : Value) (ls : List (List Int)) (q : Int) (w : World) (h : IsBB w v ls) (hq : -9223372036854775808 ≤ q ∧ q ≤ 9223372036854775807) :
    Calls Try.prog 13 #[v, .int .i64 q] w (MakeAny ls q w) := by
  by_cases hb : okArgs ls q
  · refine (make_ok v ls q w h hb).mono fun e w' ⟨fv, h1, h2, h3⟩ => ?_
    unfold MakeAny filt errF
    rw [if_pos hb, if_pos hb]
    exact ⟨fv, h1, h2, h3⟩
  · refine (make_bad v ls q w h hq hb).mono fun e w' ⟨h1, h2⟩ => ?_
    subst h2
    unfold MakeAny filt errF
    rw [if_neg hb, if_neg hb]
    exact ⟨_, h1, World.ownsRow_nil _ _ _ _, Below.refl _ _⟩
theorem rMake_any (v : Value) (ls : List (List Int)) (q : Int) (w : World) (h : IsBB w v ls) (hq : -9223372036854775808 ≤ q ∧ q ≤ 9223372036854775807) :
    Calls Try.prog 12 #[v, .int .i64 q] w (MakeAny ls q w) := by
  by_cases hb : okArgs ls q
  · refine (rMake_ok v ls q w h hb).mono fun e w' ⟨fv, h1, h2, h3⟩ => ?_
    unfold MakeAny filt errF
    rw [if_pos hb, if_pos hb]
    exact ⟨fv, h1, h2, h3⟩
  · refine (rMake_bad v ls q w h hq hb).mono fun e w' ⟨h1, h2⟩ => ?_
    subst h2
    unfold MakeAny filt errF
    rw [if_neg hb, if_neg hb]
    exact ⟨_, h1, World.ownsRow_nil _ _ _ _, Below.refl _ _⟩
set_option maxRecDepth 100000 in
set_option maxHeartbeats 2000000 in
theorem makes_walk (v : Value) (ls : List (List Int)) (q : Int) (w : World) (h : IsBB w v ls) (hq : -9223372036854775808 ≤ q ∧ q ≤ 9223372036854775807) (hs : ∀ l ∈ ls, l.length ≤ 140737488351232) (hn : ls.length ≤ 5864062014634) :
    Calls Try.prog 4 #[v, .int .i64 q] w (Ret (.bool true) w) := by
  have HB := Lib.hid h
  have HS := Lib.hid hs
  have HQ := Lib.hid hq
  have HR := Lib.hid (filt_rng ls q)
  clear h hs hq
  go_enter Try.func4, Try.ntmps4
  go_wp2_with fail
  refine (shown_any _).mono ?_
  rintro e w1 ⟨rfl, g1⟩
  have G1 := Lib.hid g1; have z1 := g1.size
  clear g1
  go_wp2_with fail
  refine (lent_any v ls w1 (HB.out.below G1.out) HS.out hn).mono ?_
  unfold LentPost
  rintro e w2 ⟨iv, rfl, hin, g2⟩
  have HI := Lib.hid hin
  have G2 := Lib.hid (bel_call G1.out g2); have z2 := g2.size
  clear hin g2
  go_wp2_with fail
  refine (rMake_any v ls q w2 (HB.out.below G2.out) HQ.out).mono ?_
  unfold MakeAny
  rintro e w3 ⟨wv, rfl, how, g3⟩
  have HW := Lib.hid (own_mono how G2.out.size)
  have HI3 := Lib.hid (HI.out.below g3)
  have G3 := Lib.hid (bel_call G2.out g3); have z3 := g3.size
  clear how g3 HI
  go_wp2_with fail
  refine (make_any iv ls q w3 HI3.out HQ.out).mono ?_
  unfold MakeAny
  rintro e w4 ⟨bv, rfl, hob, g4⟩
  have HB4 := Lib.hid hob
  have HW4 := Lib.hid (own_below HW.out g4)
  have z4 := g4.size
  have g4' := g4
  clear hob g4
  have c1 := (IsB.of_own HB4.out HR.out).conv Try.underlying22 Try.underlying5 Try.underlying9
  have c2 := (IsB.of_own HW4.out HR.out).conv Try.underlying22 Try.underlying5 Try.underlying9
  obtain ⟨bao, bcap, rfl, hbn, hbc, _, _⟩ := own_form HB4.out
  go_wp2_with fail
  have G34 := Lib.hid g4'
  clear g4' c1 c2
  go_loopw [12] (fun i wr => ∃ k : Nat, k ≤ (filt ls q).length ∧ i = .int .i64 k ∧ Hid (∃ xs, wr.ownsRow w3.heap.size 5 1 (.slice bao (filt ls q).length bcap) (filt ls q).length xs) ∧ Hid (Below w3.heap.size w3 wr)) (fun i _ => (filt ls q).length - (intOf i).toNat)
  case atStart => exact ⟨0, Nat.zero_le _, rfl, Lib.hid ⟨_, HB4.out⟩, G34.out⟩
  case round =>
    obtain ⟨k, hk, rfl, hown, hbel⟩ := hrel
    by_cases hlt : k < (filt ls q).length
    · have ho := hown.out
      obtain ⟨xs, ho⟩ := ho
      obtain ⟨g, x, rfl, hg1, hg2, hx, hc, hf⟩ := own_at ho hlt
      have HO := Lib.hid (ho.stored k (.int .u8 77)).1
      clear ho
      go_wp2_with fail
      go_roundw
      case rel => exact ⟨k + 1, by omega, by go_num, Lib.hid ⟨_, HO.out⟩, Lib.hid (own_below_set hbel.out hg1 _)⟩
      case measure => simp [intOf]; omega
    · have hkp : k = (filt ls q).length := by omega
      subst hkp
      have HI5 := Lib.hid (HI3.out.below hbel.out)
      have z5 := hbel.out.size
      go_wp2_with fail
      refine (make_any iv ls q wr HI5.out HQ.out).mono ?_
      unfold MakeAny
      rintro e w6 ⟨cv, rfl, hoc, g6⟩
      have HC6 := Lib.hid hoc
      have HB6 := Lib.hid (bel_call hbel.out g6); have z6 := g6.size
      clear hoc g6
      go_wp2_with fail
      refine (same_any iv v ls w6 (HI3.out.below HB6.out) (HB.out.below (bel_call G3.out HB6.out))).mono ?_
      rintro e w7 ⟨rfl, g7⟩
      have c1 := (IsB.of_own (own_below HC6.out g7) HR.out).conv Try.underlying22 Try.underlying5 Try.underlying9
      have c2 := (IsB.of_own (own_below (own_below HW.out HB6.out) g7) HR.out).conv Try.underlying22 Try.underlying5 Try.underlying9
      have G7 := Lib.hid (bel_call (bel_call G3.out HB6.out) g7)
      clear g7
      go_wp2_with fail
      go_ret
      exact ⟨rfl, G7.out⟩
end Bloom
end Go.Proofs.Ytjhnjnpidaofaaa
