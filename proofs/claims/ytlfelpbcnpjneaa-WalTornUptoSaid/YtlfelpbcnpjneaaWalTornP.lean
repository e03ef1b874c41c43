/- wal: what WalTorn says of bytes (plain). No program in sight. -/
import Derived.Test.YtlfelpbcnpjneaaWalBats
namespace Go.Proofs.Ytlfelpbcnpjneaa
open Go.RowKit
namespace Wal
open Codec
theorem chainOk_snoc : ∀ (bs : List Bat) (nx : Nat) (l : List Opr), chainOk nx bs → (encF (lastNx nx bs) l).2 = 0 → chainOk nx (bs ++ [(lastNx nx bs, l)])
  | [], nx, l, _, h => ⟨fun _ => rfl, h, trivial⟩
  | x :: bs, nx, l, ⟨h1, h2, h3⟩, h => ⟨h1, h2, chainOk_snoc bs _ l h3 h⟩
theorem lastNx_snoc : ∀ (bs : List Bat) (nx : Nat) (x : Bat), lastNx nx (bs ++ [x]) = x.1 + x.2.length
  | [], _, _ => rfl
  | _ :: bs, _, x => lastNx_snoc bs _ x
theorem chainOk_zero {bs : List Bat} {nx : Nat} (h : chainOk nx bs) : chainOk 0 bs := by
  cases bs with
  | nil => trivial
  | cons x bs => exact ⟨fun h => absurd h (by decide), h.2.1, h.2.2⟩
theorem chainOk_take : ∀ (bs : List Bat) (nx n : Nat), chainOk nx bs → chainOk nx (bs.take n)
  | [], _, n, _ => by simp [chainOk]
  | x :: bs, nx, 0, _ => trivial
  | x :: bs, nx, n + 1, ⟨h1, h2, h3⟩ => ⟨h1, h2, chainOk_take bs _ n h3⟩
theorem chainOk_mem : ∀ {bs : List Bat} {nx : Nat}, chainOk nx bs → ∀ x ∈ bs, (encF x.1 x.2).2 = 0
  | y :: bs, nx, ⟨_, h2, h3⟩, x, hx => by
    rcases List.mem_cons.1 hx with rfl | h
    · exact h2
    · exact chainOk_mem h3 x h
theorem batsB_snoc (bs : List Bat) (x : Bat) : batsB (bs ++ [x]) = batsB bs ++ batB x := by unfold batsB; rw [List.map_append, List.flatten_append]; simp
theorem batsB_split {bs : List Bat} {n : Nat} {x : Bat} (h : bs[n]? = some x) : batsB bs = batsB (bs.take n) ++ batB x ++ batsB (bs.drop (n + 1)) := by
  obtain ⟨hn, rfl⟩ := List.getElem?_eq_some_iff.1 h
  have e : bs = bs.take n ++ [bs[n]] ++ bs.drop (n + 1) := by rw [← List.take_succ_eq_append_getElem hn, List.take_append_drop]
  conv => lhs; rw [e]
  unfold batsB
  rw [List.map_append, List.map_append, List.flatten_append, List.flatten_append]
  simp
theorem batsB_take_succ {bs : List Bat} {n : Nat} {x : Bat} (h : bs[n]? = some x) : batsB (bs.take (n + 1)) = batsB (bs.take n) ++ batB x := by
  rw [take_snoc h, batsB_snoc]
theorem enc_rng {s : Nat} {l : List Opr} (h : ∀ x ∈ l, Rng x.2.1 ∧ Rng x.2.2) : Rng (frameF 66 (bodyB s l)) := frameF_rng (by decide) (bodyB_rng s h)
theorem batB_len {x : Bat} (h : (encF x.1 x.2).2 = 0) : (batB x).length ≤ 1048591 ∧ 6 ≤ (batB x).length := by
  obtain ⟨-, -, -, -, -, -, h7⟩ := encF_ok h
  have h1 := numN_len10 (n := (bodyB x.1 x.2).length) (by omega)
  have h2 := numN_pos (bodyB x.1 x.2).length
  unfold batB
  rw [frameF_len]
  omega
theorem batsB_len : ∀ {bs : List Bat} {nx : Nat}, chainOk nx bs → (batsB bs).length ≤ bs.length * 1048591
  | [], _, _ => by simp [batsB]
  | x :: bs, nx, ⟨_, h2, h3⟩ => by
    have h1 := (batB_len h2).1
    have h4 := batsB_len h3
    have e : batsB (x :: bs) = batB x ++ batsB bs := by unfold batsB; rw [List.map_cons, List.flatten_cons]
    rw [e, List.length_append, List.length_cons]
    omega
/-- rep with any fuel -/
theorem rep_of {l : List Int} (hr : Rng l) (f : Nat) (hf : l.length < f) : rep l = repF f l 0 := repF_fuel _ _ _ _ hr (by omega) hf
/-- cut off behind n batches -/
theorem torn_cut {bs : List Bat} {n k : Nat} {x : Bat} (hc : chainOk 0 bs) (hr : Rng (batsB bs)) (hx : bs[n]? = some x) (h1 : (batsB (bs.take n)).length ≤ k) (h2 : k < (batsB (bs.take (n + 1))).length) :
    (rep ((batsB bs).take k)).1 = bs.take n ∧ (rep ((batsB bs).take k)).2.1 = (batsB (bs.take n)).length := by
  have hs := batsB_split hx
  rw [batsB_take_succ hx, List.length_append] at h2
  have ht : (batsB bs).take k = batsB (bs.take n) ++ (batB x).take (k - (batsB (bs.take n)).length) := by
    rw [hs, List.append_assoc, List.take_append, List.take_of_length_le h1, List.take_append_of_le_length (by omega)]
  have hx2 := chainOk_mem hc x (List.mem_of_getElem? hx)
  have hb := batB_len hx2
  have hlen : (bs.take n).length ≤ bs.length := by rw [List.length_take]; omega
  have hR := rep_of (hr.take k) (((batsB bs).take k).length + 1 + (bs.take n).length) (by omega)
  have hrep := rep_bats (bs.take n) (((batsB bs).take k).length + 1) 0 ((batB x).take (k - (batsB (bs.take n)).length)) (chainOk_take bs 0 n hc)
  rw [hR, ht]
  rw [ht] at hrep
  rw [hrep]
  have h0 : ∀ g, (repF (g + 1) ((batB x).take (k - (batsB (bs.take n)).length)) (lastNx 0 (bs.take n))).1 = [] ∧ (repF (g + 1) ((batB x).take (k - (batsB (bs.take n)).length)) (lastNx 0 (bs.take n))).2.1 = 0 := by
    intro g
    by_cases hk : k - (batsB (bs.take n)).length = 0
    · rw [hk, List.take_zero, repF, if_pos rfl]; exact ⟨rfl, rfl⟩
    · have ht2 : takeFrameF ((batB x).take (k - (batsB (bs.take n)).length)) = (0, [], 0, 10) := by
        obtain ⟨-, -, -, -, -, -, h7⟩ := encF_ok hx2
        unfold batB
        exact takeFrameF_torn (by omega) (by unfold batB at h2; omega)
      rw [repF, if_neg (by intro h; have := congrArg List.length h; rw [List.length_take, List.length_nil] at this; omega), ht2, if_pos (by decide)]
      exact ⟨rfl, rfl⟩
  obtain ⟨e1, e2⟩ := h0 (batsB (bs.take n) ++ (batB x).take (k - (batsB (bs.take n)).length)).length
  rw [e1, e2]
  simp
/-- one byte of a sum or a body turned -/
theorem torn_turn {bs : List Bat} {n k : Nat} {x : Bat} {y z : Int} (hc : chainOk 0 bs) (hr : Rng (batsB bs)) (hx : bs[n]? = some x) (h1 : (batsB (bs.take n)).length ≤ k) (h2 : k < (batsB (bs.take (n + 1))).length)
    (hb : 6 ≤ k - (batsB (bs.take n)).length ∨ 3 ≤ k - (batsB (bs.take n)).length ∧ (batsB bs).getD ((batsB (bs.take n)).length + 1) 0 < 128) (hy : (batsB bs)[k]? = some y) (hz : 0 ≤ z ∧ z ≤ 255) (hne : z ≠ y) :
    rep ((batsB bs).set k z) = (bs.take n, (batsB (bs.take n)).length, 13) := by
  have hs := batsB_split hx
  rw [batsB_take_succ hx, List.length_append] at h2
  have hx2 := chainOk_mem hc x (List.mem_of_getElem? hx)
  obtain ⟨-, -, -, -, -, -, h7⟩ := encF_ok hx2
  have hlen : (bs.take n).length ≤ bs.length := by rw [List.length_take]; omega
  obtain ⟨q, rfl⟩ : ∃ q, k = (batsB (bs.take n)).length + q := ⟨k - (batsB (bs.take n)).length, by omega⟩
  have hq : q < (batB x).length := by omega
  have hfl : (batB x).length = (numN (bodyB x.1 x.2).length).length + 5 + (bodyB x.1 x.2).length := frameF_len _ _
  have hset : (batsB bs).set ((batsB (bs.take n)).length + q) z = batsB (bs.take n) ++ ((batB x).set q z ++ batsB (bs.drop (n + 1))) := by
    rw [hs, List.append_assoc, List.set_append, if_neg (by omega), Nat.add_sub_cancel_left, List.set_append, if_pos hq]
  have hget : (batsB bs)[(batsB (bs.take n)).length + q]? = (batB x)[q]? := by
    rw [hs, List.append_assoc, List.getElem?_append_right (by omega), Nat.add_sub_cancel_left, List.getElem?_append_left hq]
  have hget1 : (batsB bs).getD ((batsB (bs.take n)).length + 1) 0 = (batB x).getD 1 0 := by
    rw [List.getD_eq_getElem?_getD, hs, List.append_assoc, List.getElem?_append_right (by omega), Nat.add_sub_cancel_left, List.getElem?_append_left (by omega), List.getD_eq_getElem?_getD]
  have hn1 : (numN (bodyB x.1 x.2).length).length + 1 ≤ q := by
    have hpos := numN_pos (bodyB x.1 x.2).length
    rcases hb with h | ⟨h, h'⟩
    · have h3 := numN_len 2 (bodyB x.1 x.2).length (by omega)
      omega
    · rw [hget1] at h'
      have : (numN (bodyB x.1 x.2).length).length = 1 := by
        rcases Nat.lt_or_ge (bodyB x.1 x.2).length 128 with h5 | h5
        · rw [numN_lo h5]; rfl
        · unfold batB frameF headF at h'
          rw [numN_hi h5] at h'
          simp at h'
          omega
      omega
  obtain ⟨r, hr2⟩ : ∃ r, q = (numN (bodyB x.1 x.2).length).length + 1 + r := ⟨q - ((numN (bodyB x.1 x.2).length).length + 1), by omega⟩
  rw [hget] at hy
  have hbr : Rng (bodyB x.1 x.2) := by
    intro u hu
    refine hr u ?_
    rw [hs]
    unfold batB frameF
    simp [hu]
  have ht := turned_spoilt (kd := 66) hbr (by omega) (r := r) (x := z) (y := y) (by omega) hz (by rw [← hr2]; exact hy) hne (batsB (bs.drop (n + 1)))
  rw [← hr2] at ht
  have hR := rep_of (l := (batsB bs).set ((batsB (bs.take n)).length + q) z) (by
    intro u hu
    rcases List.mem_or_eq_of_mem_set hu with h | h
    · exact hr u h
    · rw [h]; exact hz) (((batsB bs).set ((batsB (bs.take n)).length + q) z).length + 1 + (bs.take n).length) (by omega)
  rw [hR, hset]
  have hrep := rep_bats (bs.take n) ((batsB (bs.take n) ++ ((batB x).set q z ++ batsB (bs.drop (n + 1)))).length + 1) 0 ((batB x).set q z ++ batsB (bs.drop (n + 1))) (chainOk_take bs 0 n hc)
  rw [hrep, repF, if_neg (by intro h; have := congrArg List.length h; rw [List.length_append, List.length_set, List.length_nil] at this; omega)]
  have ht' : takeFrameF ((batB x).set q z ++ batsB (bs.drop (n + 1))) = (0, [], 0, 13) := ht
  rw [ht', if_pos (by decide)]
  simp
def endsOf (bs : List Bat) : List Nat := (List.range bs.length).map fun i => (batsB (bs.take (i + 1))).length
theorem endsOf_snoc (bs : List Bat) (x : Bat) : endsOf (bs ++ [x]) = endsOf bs ++ [(batsB (bs ++ [x])).length] := by
  unfold endsOf
  rw [List.length_append, List.length_singleton, List.range_succ, List.map_append]
  congr 1
  · refine List.map_congr_left fun i hi => ?_
    rw [List.mem_range] at hi
    rw [List.take_append_of_le_length (by omega)]
  · rw [List.map_singleton, List.take_of_length_le (by rw [List.length_append]; simp)]
theorem endsOf_len (bs : List Bat) : (endsOf bs).length = bs.length := by unfold endsOf; simp
theorem endsOf_at {bs : List Bat} {i : Nat} (h : i < bs.length) : (endsOf bs)[i]? = some (batsB (bs.take (i + 1))).length := by
  unfold endsOf
  rw [List.getElem?_map, List.getElem?_range h]
  rfl
end Wal
end Go.Proofs.Ytlfelpbcnpjneaa
