/- bloom: lent, same. -/
import Derived.Test.YtjhnjnpidaofaaaBloomRMake
namespace Go.Proofs.Ytjhnjnpidaofaaa
open Go.RowKit
namespace Bloom
theorem infoB : (Try.prog.info? 22).map (fun i => (i.zero, i.size, i.bytes)) = some (some (.slice none 0 0), 1, 24) := by kernel_rfl
/-- the first k keys, laid anew in rows of the call's own -/
def Lent (w : World) (base : Nat) (us : List Value) (ls : List (List Int)) (k : Nat) : Prop :=
  us.length = k ∧ ∀ (i : Nat) (u : Value), us[i]? = some u → ∃ l, ls[i]? = some l ∧ Rng l ∧ w.ownsRow base 5 1 u l.length (l.map (Value.int .u8))
theorem Lent.keep {w w' : World} {base : Nat} {us : List Value} {ls : List (List Int)} {k : Nat} (h : Lent w base us ls k) (hk : ∀ u (l : List Int), w.ownsRow base 5 1 u l.length (l.map (Value.int .u8)) → w'.ownsRow base 5 1 u l.length (l.map (Value.int .u8))) : Lent w' base us ls k :=
  ⟨h.1, fun i u hu => let ⟨l, h1, h2, h3⟩ := h.2 i u hu; ⟨l, h1, h2, hk u l h3⟩⟩
theorem Lent.snoc {w : World} {base : Nat} {us : List Value} {ls : List (List Int)} {k : Nat} (h : Lent w base us ls k) {u : Value} {l : List Int} (hl : ls[k]? = some l) (hr : Rng l) (hu : w.ownsRow base 5 1 u l.length (l.map (Value.int .u8))) : Lent w base (us ++ [u]) ls (k + 1) := by
  refine ⟨by simp [h.1], fun i x hx => ?_⟩
  rcases Nat.lt_or_ge i k with hi | hi
  · rw [List.getElem?_append_left (by have := h.1; omega)] at hx
    exact h.2 i x hx
  · rw [List.getElem?_append_right (by have := h.1; omega)] at hx
    have : i = k := by
      rcases Nat.lt_or_ge (i - us.length) 1 with q | q
      · have := h.1; omega
      · rw [List.getElem?_eq_none (by simpa using q)] at hx; cases hx
    subst this
    simp [h.1] at hx
    subst hx
    exact ⟨l, hl, hr, hu⟩
theorem Lent.isBB {w : World} {base base' n : Nat} {e : TypeId} {v : Value} {us : List Value} {ls : List (List Int)} (h : Lent w base' us ls ls.length) (ho : w.ownsRow base e 1 v n us) : IsBB w v ls := by
  have hn : us.length = n := own_len ho
  have hl := h.1
  obtain ⟨ao, cap, rfl, k1, k2, k3, k4⟩ := own_form ho
  have e : n = ls.length := by omega
  subst e
  refine ⟨ao, cap, rfl, k1, by unfold maxLen; omega, fun hh => ⟨List.eq_nil_of_length_eq_zero (k3 hh).1, (k3 hh).2⟩, fun a ha hp => ?_⟩
  obtain ⟨q1, q2, q3⟩ := k4 a ha
  refine ⟨by rw [q1], q3, fun i l hi => ?_⟩
  have hil : i < ls.length := (List.getElem?_eq_some_iff.1 hi).1
  obtain ⟨g, x, hg, _, _, hx, hc, _⟩ := own_at ho hil
  obtain ⟨l', hl', hr, hB⟩ := h.2 i x hx.out
  rw [hi] at hl'
  cases hl'
  rw [ha] at hg
  cases hg
  exact ⟨x, by simpa using hc, IsB.of_own hB hr⟩
def LentPost (ls : List (List Int)) (w : World) (e : Ending) (w' : World) : Prop := ∃ v, e = .returned v ∧ IsBB w' v ls ∧ Below w.heap.size w w'
set_option maxHeartbeats 1000000 in
theorem lent_any (v : Value) (ls : List (List Int)) (w : World) (h : IsBB w v ls) (hs : ∀ l ∈ ls, l.length ≤ 140737488351232) (hn : ls.length ≤ 5864062014634) :
    Calls Try.prog 11 #[v] w (LentPost ls w) := by
  obtain ⟨ao, cap, rfl, hnc⟩ := h.form
  have HB := Lib.hid h
  have HSZ := Lib.hid hs
  clear h hs
  obtain ⟨i0, hi0, hz0, hz1, hz2⟩ := info_parts info8
  have HI := Lib.hid hi0; have HZ0 := Lib.hid hz0; have HZ1 := Lib.hid hz1; have HZ2 := Lib.hid hz2
  clear hi0 hz0 hz1 hz2
  obtain ⟨i1, hi0, hz0, hz1, hz2⟩ := info_parts infoB
  have HI' := Lib.hid hi0; have HZ0' := Lib.hid hz0; have HZ1' := Lib.hid hz1; have HZ2' := Lib.hid hz2
  clear hi0 hz0 hz1 hz2
  go_enter Try.func11, Try.ntmps11
  go_wp2_with fail
  go_loopw [3, 4] (fun out i wr => ∃ (k : Nat) (us : List Value), k ≤ ls.length ∧ i = .int .i64 k ∧ Hid (wr.ownsRow w.heap.size 22 1 out k us) ∧ Hid (Lent wr w.heap.size us ls k) ∧ Hid (Below w.heap.size w wr)) (fun _ i _ => ls.length - (intOf i).toNat)
  case atStart => exact ⟨0, [], Nat.zero_le _, rfl, World.ownsRow_nil _ _ _ _, Lib.hid ⟨rfl, fun i u hu => by simp at hu⟩, Below.refl _ _⟩
  case round =>
    obtain ⟨k, us, hk, rfl, hown, hlent, hbel⟩ := hrel
    by_cases hlt : k < ls.length
    · obtain ⟨b, o, u, l, rfl, hb, hx, hc, hB⟩ := (HB.out.below hbel.out).at_ hlt
      have hll : l.length ≤ 140737488351232 := HSZ.out l (List.mem_of_getElem? hx.out)
      go_wp2_with (first
        | (at_builtin; refine wpList_append_bytes (base := wr.heap.size) (.tmp 12) (.tmp 16) _ rfl rfl i0 _ Try.underlying22 HI.out HZ0.out HZ1.out HZ2.out rfl u [] l rfl rfl (World.ownsRow_lit wr #[] 0 (Nat.le_refl _) (by simp [maxLen]) (by simp)) (hB.out.alloc _) (by omega) (by simp) ?_; intro v1 w1 hown1 hb1; simp only [Nat.zero_add, List.nil_append] at hown1; have HO1 := Lib.hid hown1; have HB1 := Lib.hid hb1; clear hown1 hb1; obtain ⟨ao1, cap1, rfl, hnc1, _, _, _⟩ := own_form HO1.out; have HW1 := Lib.hid (((Below.refl _ wr).alloc (Nat.le_refl _) _).trans HB1.out))
        | (at_builtin; refine wpList_append_one' (w := w1) (base := w.heap.size) (.tmp 11) (.tmp 18) _ rfl rfl i1 _ 24 Try.underlying27 HI'.out HZ0'.out HZ1'.out HZ2'.out rfl (.slice ao1 l.length cap1) rfl rfl (own_below hown.out HW1.out) rfl (by omega) (by omega) (by have := hbel.out.size; have := HW1.out.size; omega) ?_; intro v2 w2 hown2 hb2; have HO2 := Lib.hid hown2; have HB2 := Lib.hid hb2; clear hown2 hb2))
      go_roundw
      case rel =>
        have hown1 := own_below hown.out HW1.out
        have hv1 := own_mono HO1.out hbel.out.size
        have hk : ∀ u (l : List Int), wr.ownsRow w.heap.size 5 1 u l.length (l.map (Value.int .u8)) → w2.ownsRow w.heap.size 5 1 u l.length (l.map (Value.int .u8)) := fun u l h =>
          (own_below h HW1.out).kept HB2.out (own_own_ne (own_below h HW1.out) hown1 (by decide))
        exact ⟨k + 1, us ++ [.slice ao1 l.length cap1], by omega, by go_num, Lib.hid HO2.out, Lib.hid ((hlent.out.keep hk).snoc hx.out hB.out.rng (hv1.kept HB2.out (own_own_ne hv1 hown1 (by decide)))), Lib.hid (bel_own (bel_call hbel.out HW1.out) HB2.out hown1)⟩
      case measure => simp [intOf]; omega

    · have hkp : k = ls.length := by omega
      subst hkp
      go_wp2_with fail
      go_ret
      exact ⟨_, rfl, hlent.out.isBB hown.out, hbel.out⟩
set_option maxHeartbeats 1000000 in
theorem same_any (u v : Value) (ls : List (List Int)) (w : World) (hu : IsBB w u ls) (hv : IsBB w v ls) :
    Calls Try.prog 14 #[u, v] w (Ret (.bool true) w) := by
  obtain ⟨ao, cap, rfl, hnc⟩ := hu.form
  obtain ⟨bo, cap2, rfl, hnc2⟩ := hv.form
  have hm := hu.max
  have HU := Lib.hid hu
  have HV := Lib.hid hv
  clear hu hv
  go_enter Try.func14, Try.ntmps14
  go_wp2_with fail
  go_loopw [5] (fun i wr => ∃ k : Nat, k ≤ ls.length ∧ i = .int .i64 k ∧ Hid (Below w.heap.size w wr)) (fun i _ => ls.length - (intOf i).toNat)
  case atStart => exact ⟨0, Nat.zero_le _, rfl, Below.refl _ _⟩
  case round =>
    obtain ⟨k, hk, rfl, hbel⟩ := hrel
    by_cases hlt : k < ls.length
    · obtain ⟨b, o, x, l, rfl, hb, hx, hc, hB⟩ := (HU.out.below hbel.out).at_ hlt
      obtain ⟨b2, o2, x2, l2, rfl, hb2, hx2, hc2, hB2⟩ := (HV.out.below hbel.out).at_ hlt
      have e : l2 = l := by have := hx.out; rw [hx2.out] at this; cases this; rfl
      subst e
      have h1 := fun nq => (show IsB (wr.drewN nq) x l2 from hB.out).conv Try.underlying22 Try.underlying5 Try.underlying9
      have h2 := fun nq => (show IsB (wr.drewN nq) x2 l2 from hB2.out).conv Try.underlying22 Try.underlying5 Try.underlying9
      have h3 := hB.out.conv Try.underlying22 Try.underlying5 Try.underlying9
      have h4 := hB2.out.conv Try.underlying22 Try.underlying5 Try.underlying9
      go_wp2_with fail
      go_quiet (fail)
      go_wp2_with fail
      go_roundw
      case rel => exact ⟨k + 1, by omega, by go_num, Lib.hid (below_drewN hbel.out _)⟩
      case measure => simp [intOf]; omega
    · have hkp : k = ls.length := by omega
      subst hkp
      go_wp2_with fail
      go_ret
      exact ⟨rfl, hbel.out⟩
end Bloom
end Go.Proofs.Ytjhnjnpidaofaaa
