/- wal: the document's number, read. -/
import Derived.Test.YtlfelpbcnpjneaaWalRead
import Derived.Test.YtlfelpbcnpjneaaWalREnc
import Derived.Test.YtlfelpbcnpjneaaCodecRTF
import Derived.Test.YtlfelpbcnpjneaaCodecRTT
namespace Go.Proofs.Ytlfelpbcnpjneaa
open Go.RowKit
namespace Wal
open Codec
theorem takeN_err {l : List Int} (h : (takeN l).2.2 ≠ 0) : (takeN l).1 = 0 := by
  unfold takeN at h ⊢
  split at h
  · split at h <;> rename_i h1 <;> simp [h1]
  · split at h
    · rename_i h1; rw [if_pos h1]
    · simp at h
def RnPost (l : List Int) (w : World) (e : Ending) (w' : World) : Prop :=
  ∃ rv, e = .returned (.tuple #[.int .u64 (takeN l).1, rv, .bool (decide ((takeN l).2.2 = 0))]) ∧ IsB w rv (if (takeN l).2.2 = 0 then numRest l else []) ∧ Below w.heap.size w w'
set_option maxRecDepth 100000 in
set_option maxHeartbeats 2000000 in
theorem rNum_any (v : Value) (l : List Int) (w : World) (h : IsB w v l) : Calls Try.prog 35 #[v] w (RnPost l w) := by
  have hbd := takeN_bd h.rng
  have HT := Lib.hid (rTakeNumber_any v l w h)
  unfold RTPost at HT
  have herr := takeN_err (l := l)
  have hm := h.max
  obtain ⟨ao, cap, rfl, hnc, hcap, -⟩ := h.form
  have HB := Lib.hid h
  have hN : numRest l = if (takeN l).2.2 = 0 then l.drop (takeN l).2.1.toNat else l := rfl
  unfold RnPost
  generalize takeN l = t at HT hN hbd herr ⊢
  obtain ⟨n, a, e⟩ := t
  simp only at HT hN hbd herr ⊢
  obtain ⟨-, ⟨b3, b4⟩, -⟩ := hbd
  obtain ⟨K, rfl⟩ := Int.eq_ofNat_of_zero_le b3
  simp only [Int.toNat_natCast] at hN
  clear h
  by_cases he : e = 0
  · subst he
    rw [if_pos rfl] at hN
    rw [if_pos rfl, hN]
    have hK : K ≤ l.length := by omega
    have hk2 : K ≤ cap := by omega
    clear herr hN
    by_cases hc : cap = K
    · subst hc
      have hd : l.drop cap = [] := List.drop_eq_nil_of_le (by omega)
      rw [hd]
      have HB0 := Lib.hid HB.out.cut0
      go_enter Try.func35, Try.ntmps35
      go_wp2_with fail
      refine HT.out.mono ?_
      rintro e w1 ⟨rfl, hw⟩
      subst hw
      go_wp2_with fail
      go_quiet (fail)
      go_wp2_with fail
      go_ret3
      exact ⟨_, rfl, HB0.out, below_drewN (Below.refl _ _) _⟩
    · have hD : IsB w (.slice (ao.map (·.add K)) (l.length - K) (cap - K)) (l.drop K) := by
        have := HB.out.cut K (l.length - K) (by omega)
        rwa [List.take_of_length_le (by rw [List.length_drop]; omega)] at this
      have HD := Lib.hid hD
      clear hD
      go_enter Try.func35, Try.ntmps35
      go_wp2_with fail
      refine HT.out.mono ?_
      rintro e w1 ⟨rfl, hw⟩
      subst hw
      go_wp2_with fail
      go_quiet (fail)
      go_wp2_with fail
      go_ret3
      exact ⟨_, rfl, HD.out, below_drewN (Below.refl _ _) _⟩
  · have hn0 := herr he
    subst hn0
    have hq : decide (e = 0) = false := decide_eq_false he
    have q : (e != 0) = true := by simpa using he
    rw [if_neg he, hq]
    clear herr hN he hq
    go_enter Try.func35, Try.ntmps35
    go_wp2_with fail
    refine HT.out.mono ?_
    rintro e' w1 ⟨rfl, hw⟩
    subst hw
    go_wp2_with fail
    go_ret3
    exact ⟨_, rfl, IsB.nil _, Below.refl _ _⟩
theorem rdJ_pr {b : List Int} {i : Nat} {cur : List Int} {ops : List Opr} (h : rdJ b i cur false ops) (hi : ¬ i < hdMany b) : prOps b = (ops, false) := by
  obtain ⟨-, h2⟩ := h
  obtain ⟨-, h3, -⟩ := h2 rfl
  rw [show hdMany b - i = 0 by omega, rdOps, List.append_nil] at h3
  exact h3.symm
/-- the loop's relation -/
def RRel (b : List Int) (w wb w1 : World) (gk : Nat) (rv iv : Value) (wr : World) : Prop := ∃ (k : Nat) (cur : List Int) (ops : List Opr) (ov : Value), gk = hdMany b - k ∧ iv = .int .i64 k ∧ IsB wb rv cur ∧ Below wb.heap.size wb wr ∧
    wr.cell? ⟨w.heap.size, 0, none⟩ = some (.int .u64 0) ∧ wr.frozen? ⟨w.heap.size, 0, none⟩ = false ∧ wr.cell? ⟨w.heap.size, 1, none⟩ = some (.slice none 0 0) ∧ wr.frozen? ⟨w.heap.size, 1, none⟩ = false ∧
    wr.cell? ⟨w1.heap.size, 0, none⟩ = some (.int .u64 (hdSeq b)) ∧ wr.frozen? ⟨w1.heap.size, 0, none⟩ = false ∧ wr.cell? ⟨w1.heap.size, 1, none⟩ = some ov ∧ wr.frozen? ⟨w1.heap.size, 1, none⟩ = false ∧
    OwnOps wr (w1.heap.size + 1) ov ops ∧ rdJ b k cur false ops ∧ Below w.heap.size w wr ∧ w1.heap.size < wr.heap.size
theorem rr_round {b cur : List Int} {w wb w1 W5 w9 : World} {k ocap : Nat} {oo : Option Addr} {ops : List Opr} {rv v9 kv vv : Value} {xs : List Value} (hj : rdJ b k cur false ops) (hk : k < hdMany b) (hst : stB cur = false)
    (hrd : IsB wb rv (stL cur)) (hbb : Below wb.heap.size wb W5) (hzb : wb.heap.size ≤ w1.heap.size)
    (a0 : W5.cell? ⟨w.heap.size, 0, none⟩ = some (.int .u64 0)) (a0f : W5.frozen? ⟨w.heap.size, 0, none⟩ = false) (a1 : W5.cell? ⟨w.heap.size, 1, none⟩ = some (.slice none 0 0)) (a1f : W5.frozen? ⟨w.heap.size, 1, none⟩ = false)
    (g0 : W5.cell? ⟨w1.heap.size, 0, none⟩ = some (.int .u64 (hdSeq b))) (g0f : W5.frozen? ⟨w1.heap.size, 0, none⟩ = false) (g1 : W5.cell? ⟨w1.heap.size, 1, none⟩ = some (.slice oo ops.length ocap)) (g1f : W5.frozen? ⟨w1.heap.size, 1, none⟩ = false)
    (hX : W5.ownsRow (w1.heap.size + 1) 43 3 (.slice oo ops.length ocap) ops.length xs)
    (hE : ∀ i x, ops[i]? = some x → ∃ kv vv, xs[i * 3]? = some (.bool x.1) ∧ xs[i * 3 + 1]? = some kv ∧ xs[i * 3 + 2]? = some vv ∧ OwnS W5 (w1.heap.size + 1) 5 kv x.2.1 ∧ OwnS W5 (w1.heap.size + 1) 5 vv x.2.2)
    (hkv : OwnS W5 (w1.heap.size + 1) 5 kv (stOp cur).2.1) (hvv : OwnS W5 (w1.heap.size + 1) 5 vv (stOp cur).2.2)
    (hgg : Below w.heap.size w W5) (z : w.heap.size < w1.heap.size) (z1 : w1.heap.size < W5.heap.size)
    (h9 : w9.ownsRow (w1.heap.size + 1) 43 3 v9 (ops.length + 1) (xs ++ [.bool (stOp cur).1, kv, vv])) (hg9 : W5.grownBy w9 (Value.slice oo ops.length ocap).ownBlock) :
    RRel b w wb w1 (hdMany b - (k + 1)) rv (.int .i64 ((k : Int) + 1)) (w9.setCell ⟨w1.heap.size, 1, none⟩ v9) := by
  have hO := OwnOps.snoc (x := stOp cur) hX hE hkv hvv h9 hg9
  have hne : ∀ i, i ≤ w1.heap.size → (Value.slice oo ops.length ocap).ownBlock ≠ some i := fun i hi he => by have := (hX.lt i he).1; omega
  have hw : ∀ i, (Value.slice oo ops.length ocap).ownBlock = some i → w.heap.size ≤ i := fun i he => by have := (hX.lt i he).1; omega
  have hz := hg9.size
  have hset : w9.grownBy (w9.setCell ⟨w1.heap.size, 1, none⟩ v9) (some w1.heap.size) := gb_one v9
  have G1 : w9.cell? ⟨w1.heap.size, 1, none⟩ = some (.slice oo ops.length ocap) := (cell_grown hg9 z1 (hne _ (by omega))).trans g1
  have G1f : w9.frozen? ⟨w1.heap.size, 1, none⟩ = false := (frozen_grown hg9 z1 (hne _ (by omega))).trans g1f
  have F0 : w9.frozen? ⟨w1.heap.size, 0, none⟩ = false := (frozen_grown hg9 z1 (hne _ (by omega))).trans g0f
  have G0 : w9.cell? ⟨w1.heap.size, 0, none⟩ = some (.int .u64 (hdSeq b)) := (cell_grown hg9 z1 (hne _ (by omega))).trans g0
  have hjs := rdJ_step hj hk
  rw [hst] at hjs
  refine ⟨k + 1, stL cur, ops ++ [stOp cur], v9, rfl, by simp, hrd, (bel_row hbb hg9 (fun i he => by have := (hX.lt i he).1; omega)).setCell (p := ⟨w1.heap.size, 1, none⟩) hzb _, ?_, ?_, ?_, ?_, ?_, ?_, ?_, ?_, ?_, hjs, ?_, ?_⟩
  · exact (cell_grown hset (by omega) (by intro h; have := Option.some.inj h; omega)).trans ((cell_grown hg9 (by omega) (hne _ (by omega))).trans a0)
  · exact (frozen_grown hset (by omega) (by intro h; have := Option.some.inj h; omega)).trans ((frozen_grown hg9 (by omega) (hne _ (by omega))).trans a0f)
  · exact (cell_grown hset (by omega) (by intro h; have := Option.some.inj h; omega)).trans ((cell_grown hg9 (by omega) (hne _ (by omega))).trans a1)
  · exact (frozen_grown hset (by omega) (by intro h; have := Option.some.inj h; omega)).trans ((frozen_grown hg9 (by omega) (hne _ (by omega))).trans a1f)
  · go_simp
  · go_simp
  · go_simp
  · go_simp
  · exact hO.set (by simp) (by simp only; omega) v9
  · exact (bel_row hgg hg9 hw).setCell (p := ⟨w1.heap.size, 1, none⟩) (by simp only; omega) _
  · simp; omega
end Wal
end Go.Proofs.Ytlfelpbcnpjneaa
