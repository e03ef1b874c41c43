/- codec's statements: lent, stays. -/
import Derived.Test.YtlolgiphppbcmaaDoorBytesFn
import Derived.Test.YtlolgiphppbcmaaDoorCopy
namespace Go.Proofs.YtlolgiphppbcmaaDoor
open Go.RowKit
namespace Codec
def LentPost (l : List Int) (w : World) (e : Ending) (w' : World) : Prop :=
  e = .returned (.slice (some ⟨w.heap.size, 0, none⟩) (l.length + 2) (l.length + 2)) ∧ w'.ownsRow w.heap.size 5 1 (.slice (some ⟨w.heap.size, 0, none⟩) (l.length + 2) (l.length + 2)) (l.length + 2) ((l ++ [177, 178]).map (Value.int .u8)) ∧ Below w.heap.size w w'
set_option maxRecDepth 100000 in
set_option maxHeartbeats 1000000 in
theorem lent_any (v : Value) (l : List Int) (w : World) (h : IsB w v l) (hl : l.length ≤ 140737488351232) : Calls Tryd.prog 11 #[v] w (LentPost l w) := by
  have hm := h.max
  obtain ⟨ao, cap, rfl, hnc, hcap, _⟩ := h.form
  have HB := Lib.hid h
  obtain ⟨i0, hi0, hz0, hz1, hz2⟩ := info_parts infoU8
  have HI := Lib.hid hi0; have HZ0 := Lib.hid hz0; have HZ1 := Lib.hid hz1; have HZ2 := Lib.hid hz2
  clear hi0 hz0 hz1 hz2 h
  go_enter Tryd.func11, Tryd.ntmps11
  have hsz : (Tryd.prog.info? 5).map (·.size) = some 1 := by kernel_rfl
  have HSZ := Lib.hid hsz
  clear hsz
  go_wp2_with (first | (at_make; refine wpList_make_bytes rfl (.tmp 6) (.tmp 6) _ rfl i0 Tryd.underlying23 HI.out HZ0.out HZ1.out HZ2.out _ _ (l.length + 2) rfl rfl (by push_cast; omega) (by push_cast; omega) (by omega) (Nat.le_refl _) ?_; intro w1 hown g1 z1; have HO1 := Lib.hid hown; have G1 := Lib.hid g1; clear hown g1) | ((refine wpList_copy_bytes (o := ⟨some 10, _, _, _, _, _⟩) (w := w1) (base := w.heap.size) (n := l.length + 2) (ds := List.replicate (l.length + 2) 0) (ms := l) rfl (.tmp 8) (.tmp 9) _ _ rfl Tryd.underlying23 HSZ.out rfl rfl HO1.out (HB.out.below G1.out) (by omega) ?_); intro w2 hown2 hg2; have HO2 := Lib.hid hown2; have G2 := Lib.hid (bel_own G1.out hg2 HO1.out); obtain ⟨_, x0, e0, _, q0, _, c0, f0⟩ := own_at hown2 (k := l.length) (by omega); cases e0; obtain ⟨_, x1, e1, _, _, _, c1, f1⟩ := own_at hown2 (k := l.length + 1) (by omega); cases e1; clear hown2 hg2))
  go_ret
  have e2 : l ++ (List.replicate (l.length + 2) (0 : Int)).drop l.length = l ++ [0, 0] := by
    rw [List.drop_replicate, show l.length + 2 - l.length = 2 from by omega]; rfl
  have h2 := HO2.out
  rw [e2] at h2
  have st := ((h2.stored l.length (.int .u8 177)).1.stored (l.length + 1) (.int .u8 178)).1
  have e3 : (((l ++ [0, 0]).map (Value.int .u8)).set l.length (.int .u8 177)).set (l.length + 1) (.int .u8 178) = (l ++ [177, 178]).map (Value.int .u8) := by
    simp [List.map_append, List.set_append]
  rw [e3] at st
  exact ⟨rfl, st, own_below_set (own_below_set G2.out (Nat.le_refl _) _) (Nat.le_refl _) _⟩
theorem IsB.front {w : World} {ao : Option Addr} {m cap : Nat} {L : List Int} (h : IsB w (.slice ao m cap) L) (n : Nat) (hn : n ≤ L.length) : IsB w (.slice ao n cap) (L.take n) := by
  obtain ⟨h0, ao', cap', h1, h2, h3, h4, h5⟩ := h
  simp only [Value.slice.injEq] at h1
  obtain ⟨rfl, rfl, rfl⟩ := h1
  have hl : (L.take n).length = n := by rw [List.length_take]; omega
  refine ⟨h0.take n, ao, cap, by rw [hl], by rw [hl]; omega, h3, fun e => ⟨by rw [(h4 e).1]; simp, (h4 e).2⟩, fun a ha hp => ?_⟩
  rw [hl] at hp
  obtain ⟨k1, k2, k3⟩ := h5 a ha (by omega)
  refine ⟨k1, k2, fun i hi => ?_⟩
  rw [hl] at hi
  rw [k3 i (by omega)]
  simp [List.getD, List.getElem?_take_of_lt hi]
set_option maxRecDepth 100000 in
set_option maxHeartbeats 1000000 in
theorem stays_any (u : Value) (g cap : Nat) (l : List Int) (w : World) (h : IsB w u l) (k : IsB w (.slice (some ⟨g, 0, none⟩) (l.length + 2) cap) (l ++ [177, 178])) :
    Calls Tryd.prog 14 #[.slice (some ⟨g, 0, none⟩) (l.length + 2) cap, u] w (Ret (.bool true) w) := by
  have hm := k.max
  simp at hm
  obtain ⟨ao, ucap, rfl, hnc, -, -⟩ := h.form
  obtain ⟨_, c', hc0, hcap1, hcap2, -⟩ := k.form
  simp only [Value.slice.injEq] at hc0
  obtain ⟨hz1, hz2, rfl⟩ := hc0
  subst hz1
  simp at hcap1
  clear hz2
  have hF : IsB w (.slice (some ⟨g, 0, none⟩) l.length cap) l := by
    have := IsB.front k l.length (by simp)
    simpa using this
  obtain ⟨_, _, x0, e0, _, hx0, hc0, _⟩ := k.at_ (k := l.length) (by simp)
  cases e0
  obtain ⟨_, _, x1, e1, _, hx1, hc1, _⟩ := k.at_ (k := l.length + 1) (by simp)
  cases e1
  have h0 := hx0.out
  have h1 := hx1.out
  rw [List.getElem?_append_right (by omega)] at h0 h1
  simp at h0 h1
  subst h0 h1
  simp only [Nat.zero_add] at hc0 hc1
  have c1 := fun nq => (show IsB (w.drewN nq) _ l from hF).conv Tryd.underlying23 Tryd.underlying5 Tryd.underlying9
  have c2 := fun nq => (show IsB (w.drewN nq) _ l from h).conv Tryd.underlying23 Tryd.underlying5 Tryd.underlying9
  have c3 := hF.conv Tryd.underlying23 Tryd.underlying5 Tryd.underlying9
  have c4 := h.conv Tryd.underlying23 Tryd.underlying5 Tryd.underlying9
  have hw1 := IntWalk.i64_in ((l.length : Int) + 1) (by omega)
  have hw2 : ((l.length : Int) + 1).toNat = l.length + 1 := by omega
  have hw3 : 0 ≤ (l.length : Int) + 1 := by omega
  have hw4 : (l.length : Int) < (l.length : Int) + 2 := by omega
  have hw5 : (l.length : Int) + 1 < (l.length : Int) + 2 := by omega
  have hw6 : 0 ≤ (l.length : Int) := by omega
  have hw7 : l.length ≤ cap := by omega
  clear h k hF hx0 hx1
  go_enter Tryd.func14, Tryd.ntmps14
  go_wp2_with fail
  go_quiet (fail)
  go_wp2_with fail
  go_ret
  exact ⟨rfl, below_drewN (Below.refl _ _) _⟩
end Codec
end Go.Proofs.YtlolgiphppbcmaaDoor
