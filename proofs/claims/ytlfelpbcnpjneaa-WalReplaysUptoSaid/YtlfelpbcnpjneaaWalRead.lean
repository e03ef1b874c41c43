/- wal: read. -/
import Derived.Test.YtlfelpbcnpjneaaWalPlain
import Derived.Test.YtlfelpbcnpjneaaWalOwn
import Derived.Test.YtlfelpbcnpjneaaWalEnc
import Derived.Test.YtlfelpbcnpjneaaEq
import Derived.Test.YtlfelpbcnpjneaaKit
import Derived.Deep.LoopGhost
import Derived.Deep.RegionHeld3
namespace Go.Proofs.Ytlfelpbcnpjneaa
open Go.RowKit
namespace Wal
open Codec
theorem RdAt.other {W w w' : World} {g : Nat} {l : List Int} {bad : Bool} {row : Option Nat} (h : RdAt W w g l bad) (hg : w.grownBy w' row) (hne : row ≠ some g) (hr : ∀ k, row = some k → W.heap.size ≤ k) : RdAt W w' g l bad := by
  obtain ⟨bv, c0, c1, z0, z1, hB, hWg, hgw, hbel⟩ := h
  have hf : ∀ o, w'.frozen? ⟨g, o, none⟩ = w.frozen? ⟨g, o, none⟩ := fun o => by
    have := hg.block g hgw (fun e => hne e.symm)
    simp [World.frozen?, this]
  exact ⟨bv, (cell_grown hg hgw hne).trans c0, (cell_grown hg hgw hne).trans c1, (hf 0).trans z0, (hf 1).trans z1, hB, hWg, Nat.lt_of_lt_of_le hgw hg.size, bel_row hbel hg hr⟩
theorem stL_le (l : List Int) : (stL l).length ≤ l.length := by
  have h1 := textRest_len (l.drop 1)
  have h2 := textRest_len (stL2 l)
  rw [List.length_drop] at h1
  unfold stL
  split
  · unfold stL2; omega
  · unfold stL2 at h2 ⊢; omega
theorem frozen_grown {W W' : World} {row : Option Nat} {b o : Nat} (h : W.grownBy W' row) (hlt : b < W.heap.size) (hne : row ≠ some b) : W'.frozen? ⟨b, o, none⟩ = W.frozen? ⟨b, o, none⟩ := by
  have := h.block b hlt (fun e => hne e.symm)
  simp [World.frozen?, this]
/-- the loop's relation -/
def RdRel (b : List Int) (w w1 : World) (gk : Nat) (i : Value) (wr : World) : Prop := ∃ (k : Nat) (cur : List Int) (bad : Bool) (ops : List Opr) (ov : Value), gk = cur.length + (if bad then 0 else 1) ∧ i = .int .u64 k ∧ RdAt w wr (w.heap.size + 1) cur bad ∧
    wr.cell? ⟨w.heap.size, 0, none⟩ = some (.int .u64 0) ∧ wr.frozen? ⟨w.heap.size, 0, none⟩ = false ∧ wr.cell? ⟨w.heap.size, 1, none⟩ = some (.slice none 0 0) ∧ wr.frozen? ⟨w.heap.size, 1, none⟩ = false ∧
    wr.cell? ⟨w1.heap.size, 0, none⟩ = some (.int .u64 (hdSeq b)) ∧ wr.frozen? ⟨w1.heap.size, 0, none⟩ = false ∧ wr.cell? ⟨w1.heap.size, 1, none⟩ = some ov ∧ wr.frozen? ⟨w1.heap.size, 1, none⟩ = false ∧
    OwnOps wr (w1.heap.size + 1) ov ops ∧ rdJ b k cur bad ops ∧ Below w.heap.size w wr ∧ w1.heap.size < wr.heap.size
theorem rd_round {b cur : List Int} {w w1 W5 w9 : World} {k ocap : Nat} {oo : Option Addr} {ops : List Opr} {v9 kv vv : Value} {xs : List Value} (hj : rdJ b k cur false ops) (hk : k < hdMany b)
    (hrd : RdAt w W5 (w.heap.size + 1) (stL cur) (stB cur))
    (a0 : W5.cell? ⟨w.heap.size, 0, none⟩ = some (.int .u64 0)) (a0f : W5.frozen? ⟨w.heap.size, 0, none⟩ = false) (a1 : W5.cell? ⟨w.heap.size, 1, none⟩ = some (.slice none 0 0)) (a1f : W5.frozen? ⟨w.heap.size, 1, none⟩ = false)
    (g0 : W5.cell? ⟨w1.heap.size, 0, none⟩ = some (.int .u64 (hdSeq b))) (g0f : W5.frozen? ⟨w1.heap.size, 0, none⟩ = false) (g1 : W5.cell? ⟨w1.heap.size, 1, none⟩ = some (.slice oo ops.length ocap)) (g1f : W5.frozen? ⟨w1.heap.size, 1, none⟩ = false)
    (hX : W5.ownsRow (w1.heap.size + 1) 43 3 (.slice oo ops.length ocap) ops.length xs)
    (hE : ∀ i x, ops[i]? = some x → ∃ kv vv, xs[i * 3]? = some (.bool x.1) ∧ xs[i * 3 + 1]? = some kv ∧ xs[i * 3 + 2]? = some vv ∧ OwnS W5 (w1.heap.size + 1) 5 kv x.2.1 ∧ OwnS W5 (w1.heap.size + 1) 5 vv x.2.2)
    (hkv : OwnS W5 (w1.heap.size + 1) 5 kv (stOp cur).2.1) (hvv : OwnS W5 (w1.heap.size + 1) 5 vv (stOp cur).2.2)
    (hgg : Below w.heap.size w W5) (z : w.heap.size + 1 < w1.heap.size) (z1 : w1.heap.size < W5.heap.size)
    (h9 : w9.ownsRow (w1.heap.size + 1) 43 3 v9 (ops.length + 1) (xs ++ [.bool (stOp cur).1, kv, vv])) (hg9 : W5.grownBy w9 (Value.slice oo ops.length ocap).ownBlock) :
    RdRel b w w1 ((stL cur).length + (if stB cur then 0 else 1)) (.int .u64 ((k : Int) + 1)) (w9.setCell ⟨w1.heap.size, 1, none⟩ v9) := by
  have hO := OwnOps.snoc (x := stOp cur) hX hE hkv hvv h9 hg9
  have hne : ∀ i, i ≤ w1.heap.size → (Value.slice oo ops.length ocap).ownBlock ≠ some i := fun i hi he => by have := (hX.lt i he).1; omega
  have hw : ∀ i, (Value.slice oo ops.length ocap).ownBlock = some i → w.heap.size ≤ i := fun i he => by have := (hX.lt i he).1; omega
  have hz := hg9.size
  have hset : w9.grownBy (w9.setCell ⟨w1.heap.size, 1, none⟩ v9) (some w1.heap.size) := gb_one v9
  have hr9 := hrd.other hg9 (hne _ (by omega)) hw
  have G1 : w9.cell? ⟨w1.heap.size, 1, none⟩ = some (.slice oo ops.length ocap) := (cell_grown hg9 z1 (hne _ (by omega))).trans g1
  have G1f : w9.frozen? ⟨w1.heap.size, 1, none⟩ = false := (frozen_grown hg9 z1 (hne _ (by omega))).trans g1f
  have F0 : w9.frozen? ⟨w1.heap.size, 0, none⟩ = false := (frozen_grown hg9 z1 (hne _ (by omega))).trans g0f
  have G0 : w9.cell? ⟨w1.heap.size, 0, none⟩ = some (.int .u64 (hdSeq b)) := (cell_grown hg9 z1 (hne _ (by omega))).trans g0
  refine ⟨k + 1, stL cur, stB cur, ops ++ [stOp cur], v9, rfl, by simp, hr9.other hset (by intro h; have := Option.some.inj h; omega) (fun i hi => by cases hi; omega), ?_, ?_, ?_, ?_, ?_, ?_, ?_, ?_, ?_, rdJ_step hj hk, ?_, ?_⟩
  · exact (cell_grown hset (by omega) (by intro h; have := Option.some.inj h; omega)).trans ((cell_grown hg9 (by omega) (hne _ (by omega))).trans a0)
  · exact (frozen_grown hset (by omega) (by intro h; have := Option.some.inj h; omega)).trans ((frozen_grown hg9 (by omega) (hne _ (by omega))).trans a0f)
  · exact (cell_grown hset (by omega) (by intro h; have := Option.some.inj h; omega)).trans ((cell_grown hg9 (by omega) (hne _ (by omega))).trans a1)
  · exact (frozen_grown hset (by omega) (by intro h; have := Option.some.inj h; omega)).trans ((frozen_grown hg9 (by omega) (hne _ (by omega))).trans a1f)
  · go_simp
  · go_simp
  · go_simp
  · go_simp
  · exact hO.set (by simp) (by simp only; omega) v9
  · exact (bel_row hgg hg9 hw).setCell (p := ⟨w1.heap.size, 1, none⟩) (by simp only; omega) _
  · simp; omega
theorem encF_cases (s : Nat) (l : List Opr) : (encF s l).2 = 0 ∨ (encF s l).2 = 60 ∨ (encF s l).2 = 61 ∨ (encF s l).2 = 62 := by
  unfold encF
  split
  · exact .inr (.inl rfl)
  · split
    · exact .inr (.inr (.inl rfl))
    · split
      · exact .inr (.inr (.inr rfl))
      · exact .inl rfl
def ReadPost (f b : List Int) (w : World) (e : Ending) (w' : World) : Prop :=
  ∃ v, e = .returned (.tuple #[.agg #[.int .u64 (rdRes f b).1, v], .bool (rdRes f b).2.2]) ∧ OwnOps w' w.heap.size v (rdRes f b).2.1 ∧ Below w.heap.size w w'
theorem ret_read {v : Value} {t : Nat × List Opr × Bool} {a : Nat} {l : List Opr} {b : Bool} (h : t = (a, l, b)) : Ending.returned (.tuple #[.agg #[.int .u64 a, v], .bool b]) = .returned (.tuple #[.agg #[.int .u64 t.1, v], .bool t.2.2]) := by subst h; rfl
set_option maxRecDepth 100000 in
set_option maxHeartbeats 4000000 in
theorem read_any (fv bv : Value) (f b : List Int) (w : World) (hf : IsB w fv f) (hb : IsB w bv b) (hl : b.length ≤ 2097152) :
    Calls Try.prog 26 #[fv, bv] w (ReadPost f b w) := by
  have hn1 := takeN_bd hb.rng
  have hrg : Rng (numRest b) := by unfold numRest; split; exact hb.rng.drop _; exact hb.rng
  have hn2 := takeN_bd hrg
  obtain ⟨⟨n1a, n1b⟩, -, -⟩ := hn1
  obtain ⟨⟨n2a, n2b⟩, -, -⟩ := hn2
  have hs : (takeN b).1 = (hdSeq b : Int) := by unfold hdSeq; omega
  have hmn : (takeN (numRest b)).1 = (hdMany b : Int) := by unfold hdMany; omega
  have hs64 : hdSeq b < 18446744073709551616 := by omega
  have hm64 : hdMany b < 18446744073709551616 := by omega
  obtain ⟨fo, fcap, rfl, -, -, -⟩ := hf.form
  obtain ⟨bo, bcap, rfl, -, -, -⟩ := hb.form
  have HF := Lib.hid hf
  have hr0 : RdAt w ((w.alloc (.cells #[.int .u64 0, .slice none 0 0] 25)).alloc (.cells #[.slice bo b.length bcap, .bool false] 72)) (w.heap.size + 1) b false := ⟨_, by go_simp, by go_simp, by go_simp, by go_simp, hb, by omega, by simp, (by repeat' (first | (with_reducible exact Below.refl _ _) | (with_reducible assumption) | (with_reducible refine Below.drew ?_) | (with_reducible refine below_drewN ?_ _) | (with_reducible refine bel_alloc ?_ _) | (with_reducible refine Below.setCell ?_ ?_ _) | (with_reducible refine bel_call ?_ (by assumption)) | (simp <;> omega)))⟩
  have HR0 := Lib.hid (rdNumber_any w _ (w.heap.size + 1) b false hr0)
  rw [hs] at HR0
  have HS := Lib.hid hs
  have HMN := Lib.hid hmn
  obtain ⟨i1, hi1, hy0, hy1, hy2⟩ := info_parts infoOp
  have HI1 := Lib.hid hi1; have HY0 := Lib.hid hy0; have HY1 := Lib.hid hy1; have HY2 := Lib.hid hy2
  clear hi1 hy0 hy1 hy2 hf hb hr0 hs hmn n1a n1b n2a n2b hrg
  go_enter Try.func26, Try.ntmps26
  -- boxes
  go_wp2_with fail
  refine (HR0.out).mono ?_
  rintro e w1 ⟨rfl, hr, hb⟩
  replace kb0_0 : w1.cell? ⟨w.heap.size, 0, none⟩ = some (.int .u64 0) := (gb_cell hb (b := w.heap.size) (o := 0) (by first | omega | (simp <;> omega)) (by omega)).trans (by go_simp)
  replace kb0_0f : w1.frozen? ⟨w.heap.size, 0, none⟩ = false := (gb_frozen hb (b := w.heap.size) (o := 0) (by first | omega | (simp <;> omega)) (by omega)).trans (by go_simp)
  replace kb0_1 : w1.cell? ⟨w.heap.size, 1, none⟩ = some (.slice none 0 0) := (gb_cell hb (b := w.heap.size) (o := 1) (by first | omega | (simp <;> omega)) (by omega)).trans (by go_simp)
  replace kb0_1f : w1.frozen? ⟨w.heap.size, 1, none⟩ = false := (gb_frozen hb (b := w.heap.size) (o := 1) (by first | omega | (simp <;> omega)) (by omega)).trans (by go_simp)
  have zb1 := hb.size; (try simp at zb1)
  replace zz : w.heap.size ≤ w1.heap.size := by omega
  replace ybw_heap_size : w.heap.size < w1.heap.size := by omega
  replace gg : Below w.heap.size w w1 := bel_grown (by repeat' (first | (with_reducible exact Below.refl _ _) | (with_reducible assumption) | (with_reducible refine Below.drew ?_) | (with_reducible refine below_drewN ?_ _) | (with_reducible refine bel_alloc ?_ _) | (with_reducible refine Below.setCell ?_ ?_ _) | (with_reducible refine bel_call ?_ (by assumption)) | (simp <;> omega))) hb (by omega)
  have HQ1 := Lib.hid hb
  clear hb
  have zz1 : w.heap.size + 1 < w1.heap.size := by omega
  have HR1 := Lib.hid hr
  have HN1 := Lib.hid (rdNumber_any w _ (w.heap.size + 1) _ _ (show RdAt w (w1.alloc (.cells #[.int .u64 (hdSeq b), .slice none 0 0] 25)) (w.heap.size + 1) (numRest b) (numBad b false) from hr.below ((Below.refl _ w1).alloc (Nat.le_refl _) _)))
  rw [HMN.out] at HN1
  clear hr
  -- boxes
  go_wp2_with fail
  refine (HN1.out).mono ?_
  rintro e w2 ⟨rfl, hr, hb⟩
  replace kb0_0 : w2.cell? ⟨w.heap.size, 0, none⟩ = some (.int .u64 0) := (gb_cell hb (b := w.heap.size) (o := 0) (by first | omega | (simp <;> omega)) (by omega)).trans (by go_simp)
  replace kb0_0f : w2.frozen? ⟨w.heap.size, 0, none⟩ = false := (gb_frozen hb (b := w.heap.size) (o := 0) (by first | omega | (simp <;> omega)) (by omega)).trans (by go_simp)
  replace kb0_1 : w2.cell? ⟨w.heap.size, 1, none⟩ = some (.slice none 0 0) := (gb_cell hb (b := w.heap.size) (o := 1) (by first | omega | (simp <;> omega)) (by omega)).trans (by go_simp)
  replace kb0_1f : w2.frozen? ⟨w.heap.size, 1, none⟩ = false := (gb_frozen hb (b := w.heap.size) (o := 1) (by first | omega | (simp <;> omega)) (by omega)).trans (by go_simp)
  replace kb1_0 : w2.cell? ⟨w1.heap.size, 0, none⟩ = some (.int .u64 (hdSeq b)) := (gb_cell hb (b := w1.heap.size) (o := 0) (by first | omega | (simp <;> omega)) (by omega)).trans (by go_simp)
  replace kb1_0f : w2.frozen? ⟨w1.heap.size, 0, none⟩ = false := (gb_frozen hb (b := w1.heap.size) (o := 0) (by first | omega | (simp <;> omega)) (by omega)).trans (by go_simp)
  replace kb1_1 : w2.cell? ⟨w1.heap.size, 1, none⟩ = some (.slice none 0 0) := (gb_cell hb (b := w1.heap.size) (o := 1) (by first | omega | (simp <;> omega)) (by omega)).trans (by go_simp)
  replace kb1_1f : w2.frozen? ⟨w1.heap.size, 1, none⟩ = false := (gb_frozen hb (b := w1.heap.size) (o := 1) (by first | omega | (simp <;> omega)) (by omega)).trans (by go_simp)
  have zb2 := hb.size; (try simp at zb2)
  replace zz : w.heap.size ≤ w2.heap.size := by omega
  replace ybw_heap_size : w.heap.size < w2.heap.size := by omega
  replace ybw1_heap_size : w1.heap.size < w2.heap.size := by omega
  replace gg : Below w.heap.size w w2 := bel_grown (by repeat' (first | (with_reducible exact Below.refl _ _) | (with_reducible assumption) | (with_reducible refine Below.drew ?_) | (with_reducible refine below_drewN ?_ _) | (with_reducible refine bel_alloc ?_ _) | (with_reducible refine Below.setCell ?_ ?_ _) | (with_reducible refine bel_call ?_ (by assumption)) | (simp <;> omega))) hb (by omega)
  have HQ2 := Lib.hid hb
  clear hb
  have HR2 := Lib.hid hr
  have JJ := Lib.hid (rdJ_start b)
  clear hr HN1 HR0 HR1
  have zz2 : w.heap.size < w1.heap.size := by omega
  go_wp2_with fail
  go_loopg [9] ((hdL b).length + (if hdB b then 0 else 1)) (fun gk i wr => RdRel b w w1 gk i wr)
  case atStart => exact ⟨0, hdL b, hdB b, [], .slice none 0 0, rfl, rfl, HR2.out, kb0_0, kb0_0f, kb0_1, kb0_1f, kb1_0, kb1_0f, kb1_1, kb1_1f, OwnOps.nil _ _, JJ.out, gg, by assumption⟩
  case round =>
    obtain ⟨k, cur, bad, ops, ov, hgk, rfl, hrd, kb0_0, kb0_0f, kb0_1, kb0_1f, kb1_0, kb1_0f, kb1_1, kb1_1f, hop, hj, gg, zw1⟩ := hrel
    have hrd := Lib.hid hrd
    have hop := Lib.hid hop
    have hj := Lib.hid hj
    obtain ⟨rv, rc0, rc1, -, -, -, -, -, -⟩ := hrd.out
    have hjl := rdJ_len hj.out
    obtain ⟨xs, hxs1, hxs2⟩ := hop.out
    have HX1 := Lib.hid hxs1
    obtain ⟨oo, ocap, rfl, -, -, -, -⟩ := own_form hxs1
    clear hxs1 hxs2
    cases bad
    · by_cases hk : k < hdMany b
      · have HG := Lib.hid hgk
        have hk1 : (k : Int) < hdMany b := by omega
        clear hgk
        have ybw_heap_size : w.heap.size < wr.heap.size := by omega
        have ybw1_heap_size : w1.heap.size < wr.heap.size := by omega
        -- boxes
        have HBY := Lib.hid (rdByte_any w wr (w.heap.size + 1) cur false hrd.out)
        have LE := stL_le cur
        have LT : stB cur = false → (stL cur).length < cur.length := stL_lt
        rcases hd : (cur.getD 0 0 == 1) with _ | _
        · have hd' : stDel cur = false := by unfold stDel; rw [decide_eq_false_iff_not]; intro h; rw [h] at hd; exact absurd hd (by decide)
          have e1 : stL cur = textRest (textRest (cur.drop 1)) := by unfold stL; rw [if_neg (by rw [hd']; decide)]; rfl
          have e2 : stB cur = textBad (textRest (cur.drop 1)) (textBad (cur.drop 1) (byteBad cur false)) := by unfold stB; rw [if_neg (by rw [hd']; decide)]; rfl
          have e3 : stOp cur = (false, (takeTextF (cur.drop 1)).1, (takeTextF (textRest (cur.drop 1))).1) := by unfold stOp; rw [hd', if_neg (by decide)]; rfl
          obtain ⟨C, hC⟩ : ∃ C, cur.drop 1 = C := ⟨_, rfl⟩
          rw [hC] at HBY e1 e2 e3
          have E1 := Lib.hid e1; have E2 := Lib.hid e2; have E3 := Lib.hid e3
          clear hC
          rw [List.getD_eq_getElem?_getD] at hd
          clear hd' e1 e2 e3
          go_wp2_with fail
          refine (HBY.out).mono ?_
          rintro e w3 ⟨rfl, hr, hb⟩
          replace kb0_0 : w3.cell? ⟨w.heap.size, 0, none⟩ = some (.int .u64 0) := (gb_cell hb (b := w.heap.size) (o := 0) (by first | omega | (simp <;> omega)) (by omega)).trans (by go_simp)
          replace kb0_0f : w3.frozen? ⟨w.heap.size, 0, none⟩ = false := (gb_frozen hb (b := w.heap.size) (o := 0) (by first | omega | (simp <;> omega)) (by omega)).trans (by go_simp)
          replace kb0_1 : w3.cell? ⟨w.heap.size, 1, none⟩ = some (.slice none 0 0) := (gb_cell hb (b := w.heap.size) (o := 1) (by first | omega | (simp <;> omega)) (by omega)).trans (by go_simp)
          replace kb0_1f : w3.frozen? ⟨w.heap.size, 1, none⟩ = false := (gb_frozen hb (b := w.heap.size) (o := 1) (by first | omega | (simp <;> omega)) (by omega)).trans (by go_simp)
          replace kb1_0 : w3.cell? ⟨w1.heap.size, 0, none⟩ = some (.int .u64 (hdSeq b)) := (gb_cell hb (b := w1.heap.size) (o := 0) (by first | omega | (simp <;> omega)) (by omega)).trans (by go_simp)
          replace kb1_0f : w3.frozen? ⟨w1.heap.size, 0, none⟩ = false := (gb_frozen hb (b := w1.heap.size) (o := 0) (by first | omega | (simp <;> omega)) (by omega)).trans (by go_simp)
          replace kb1_1 : w3.cell? ⟨w1.heap.size, 1, none⟩ = some (.slice oo ops.length ocap) := (gb_cell hb (b := w1.heap.size) (o := 1) (by first | omega | (simp <;> omega)) (by omega)).trans (by go_simp)
          replace kb1_1f : w3.frozen? ⟨w1.heap.size, 1, none⟩ = false := (gb_frozen hb (b := w1.heap.size) (o := 1) (by first | omega | (simp <;> omega)) (by omega)).trans (by go_simp)
          have zb3 := hb.size; (try simp at zb3)
          replace zz : w.heap.size ≤ w3.heap.size := by omega
          replace ybw_heap_size : w.heap.size < w3.heap.size := by omega
          replace ybw1_heap_size : w1.heap.size < w3.heap.size := by omega
          replace gg : Below w.heap.size w w3 := bel_grown (by repeat' (first | (with_reducible exact Below.refl _ _) | (with_reducible assumption) | (with_reducible refine Below.drew ?_) | (with_reducible refine below_drewN ?_ _) | (with_reducible refine bel_alloc ?_ _) | (with_reducible refine Below.setCell ?_ ?_ _) | (with_reducible refine bel_call ?_ (by assumption)) | (simp <;> omega))) hb (by omega)
          have HB3 := Lib.hid hb
          clear hb
          have HT := Lib.hid (rdText_any w (w3.alloc (.cells #[.bool false, .slice none 0 0, .slice none 0 0] 43)) (w.heap.size + 1) _ _ (hr.below ((Below.refl _ w3).alloc (Nat.le_refl _) _)))
          have GB3 := Lib.hid (gb_alloc HB3.out (.cells #[.bool false, .slice none 0 0, .slice none 0 0] 43))
          have zo3 : w1.heap.size < w3.heap.size := by omega
          clear hr
          -- boxes
          go_wp2_with fail
          refine (HT.out).mono ?_
          rintro e w4 ⟨kv, rfl, hkv, hr, hb⟩
          replace kb0_0 : w4.cell? ⟨w.heap.size, 0, none⟩ = some (.int .u64 0) := (gb_cell hb (b := w.heap.size) (o := 0) (by first | omega | (simp <;> omega)) (by omega)).trans (by go_simp)
          replace kb0_0f : w4.frozen? ⟨w.heap.size, 0, none⟩ = false := (gb_frozen hb (b := w.heap.size) (o := 0) (by first | omega | (simp <;> omega)) (by omega)).trans (by go_simp)
          replace kb0_1 : w4.cell? ⟨w.heap.size, 1, none⟩ = some (.slice none 0 0) := (gb_cell hb (b := w.heap.size) (o := 1) (by first | omega | (simp <;> omega)) (by omega)).trans (by go_simp)
          replace kb0_1f : w4.frozen? ⟨w.heap.size, 1, none⟩ = false := (gb_frozen hb (b := w.heap.size) (o := 1) (by first | omega | (simp <;> omega)) (by omega)).trans (by go_simp)
          replace kb1_0 : w4.cell? ⟨w1.heap.size, 0, none⟩ = some (.int .u64 (hdSeq b)) := (gb_cell hb (b := w1.heap.size) (o := 0) (by first | omega | (simp <;> omega)) (by omega)).trans (by go_simp)
          replace kb1_0f : w4.frozen? ⟨w1.heap.size, 0, none⟩ = false := (gb_frozen hb (b := w1.heap.size) (o := 0) (by first | omega | (simp <;> omega)) (by omega)).trans (by go_simp)
          replace kb1_1 : w4.cell? ⟨w1.heap.size, 1, none⟩ = some (.slice oo ops.length ocap) := (gb_cell hb (b := w1.heap.size) (o := 1) (by first | omega | (simp <;> omega)) (by omega)).trans (by go_simp)
          replace kb1_1f : w4.frozen? ⟨w1.heap.size, 1, none⟩ = false := (gb_frozen hb (b := w1.heap.size) (o := 1) (by first | omega | (simp <;> omega)) (by omega)).trans (by go_simp)
          replace kb2_0 : w4.cell? ⟨w3.heap.size, 0, none⟩ = some (.bool false) := (gb_cell hb (b := w3.heap.size) (o := 0) (by first | omega | (simp <;> omega)) (by omega)).trans (by go_simp)
          replace kb2_0f : w4.frozen? ⟨w3.heap.size, 0, none⟩ = false := (gb_frozen hb (b := w3.heap.size) (o := 0) (by first | omega | (simp <;> omega)) (by omega)).trans (by go_simp)
          replace kb2_1 : w4.cell? ⟨w3.heap.size, 1, none⟩ = some (.slice none 0 0) := (gb_cell hb (b := w3.heap.size) (o := 1) (by first | omega | (simp <;> omega)) (by omega)).trans (by go_simp)
          replace kb2_1f : w4.frozen? ⟨w3.heap.size, 1, none⟩ = false := (gb_frozen hb (b := w3.heap.size) (o := 1) (by first | omega | (simp <;> omega)) (by omega)).trans (by go_simp)
          replace kb2_2 : w4.cell? ⟨w3.heap.size, 2, none⟩ = some (.slice none 0 0) := (gb_cell hb (b := w3.heap.size) (o := 2) (by first | omega | (simp <;> omega)) (by omega)).trans (by go_simp)
          replace kb2_2f : w4.frozen? ⟨w3.heap.size, 2, none⟩ = false := (gb_frozen hb (b := w3.heap.size) (o := 2) (by first | omega | (simp <;> omega)) (by omega)).trans (by go_simp)
          have zb4 := hb.size; (try simp at zb4)
          replace zz : w.heap.size ≤ w4.heap.size := by omega
          replace ybw_heap_size : w.heap.size < w4.heap.size := by omega
          replace ybw1_heap_size : w1.heap.size < w4.heap.size := by omega
          replace ybw3_heap_size : w3.heap.size < w4.heap.size := by omega
          replace gg : Below w.heap.size w w4 := bel_grown (by repeat' (first | (with_reducible exact Below.refl _ _) | (with_reducible assumption) | (with_reducible refine Below.drew ?_) | (with_reducible refine below_drewN ?_ _) | (with_reducible refine bel_alloc ?_ _) | (with_reducible refine Below.setCell ?_ ?_ _) | (with_reducible refine bel_call ?_ (by assumption)) | (simp <;> omega))) hb (by omega)
          have HB4 := Lib.hid hb
          clear hb
          have zo4 : w3.heap.size < w4.heap.size := by omega
          obtain ⟨ko, kcap, rfl, -, -, -, -⟩ := hkv.form
          have GB4 := Lib.hid (gb_trans GB3.out HB4.out)
          have hg4 : w4.grownBy (w4.setCell ⟨w3.heap.size, 1, none⟩ (.slice ko (takeTextF C).1.length kcap)) (some w3.heap.size) := gb_one _
          have GB4' := Lib.hid (gb_set GB4.out (p := ⟨w3.heap.size, 1, none⟩) (.inr (by simp only; omega)) (.slice ko (takeTextF C).1.length kcap))
          have HR4 := hr.other hg4 (by intro h; have := Option.some.inj h; omega) (fun i hi => by cases hi; omega)
          have HK4 := Lib.hid (hkv.kept hg4 (.inr fun e => by have := (hkv.lt _ e).1; simp at this; omega))
          have HT4 := Lib.hid (rdText_any w _ (w.heap.size + 1) _ _ HR4)
          clear hkv hr hg4 HR4
          -- boxes
          go_wp2_with fail
          refine (HT4.out).mono ?_
          rintro e w5 ⟨vv, rfl, hvv, hr, hb⟩
          replace kb0_0 : w5.cell? ⟨w.heap.size, 0, none⟩ = some (.int .u64 0) := (gb_cell hb (b := w.heap.size) (o := 0) (by first | omega | (simp <;> omega)) (by omega)).trans (by go_simp)
          replace kb0_0f : w5.frozen? ⟨w.heap.size, 0, none⟩ = false := (gb_frozen hb (b := w.heap.size) (o := 0) (by first | omega | (simp <;> omega)) (by omega)).trans (by go_simp)
          replace kb0_1 : w5.cell? ⟨w.heap.size, 1, none⟩ = some (.slice none 0 0) := (gb_cell hb (b := w.heap.size) (o := 1) (by first | omega | (simp <;> omega)) (by omega)).trans (by go_simp)
          replace kb0_1f : w5.frozen? ⟨w.heap.size, 1, none⟩ = false := (gb_frozen hb (b := w.heap.size) (o := 1) (by first | omega | (simp <;> omega)) (by omega)).trans (by go_simp)
          replace kb1_0 : w5.cell? ⟨w1.heap.size, 0, none⟩ = some (.int .u64 (hdSeq b)) := (gb_cell hb (b := w1.heap.size) (o := 0) (by first | omega | (simp <;> omega)) (by omega)).trans (by go_simp)
          replace kb1_0f : w5.frozen? ⟨w1.heap.size, 0, none⟩ = false := (gb_frozen hb (b := w1.heap.size) (o := 0) (by first | omega | (simp <;> omega)) (by omega)).trans (by go_simp)
          replace kb1_1 : w5.cell? ⟨w1.heap.size, 1, none⟩ = some (.slice oo ops.length ocap) := (gb_cell hb (b := w1.heap.size) (o := 1) (by first | omega | (simp <;> omega)) (by omega)).trans (by go_simp)
          replace kb1_1f : w5.frozen? ⟨w1.heap.size, 1, none⟩ = false := (gb_frozen hb (b := w1.heap.size) (o := 1) (by first | omega | (simp <;> omega)) (by omega)).trans (by go_simp)
          replace kb2_0 : w5.cell? ⟨w3.heap.size, 0, none⟩ = some (.bool false) := (gb_cell hb (b := w3.heap.size) (o := 0) (by first | omega | (simp <;> omega)) (by omega)).trans (by go_simp)
          replace kb2_0f : w5.frozen? ⟨w3.heap.size, 0, none⟩ = false := (gb_frozen hb (b := w3.heap.size) (o := 0) (by first | omega | (simp <;> omega)) (by omega)).trans (by go_simp)
          replace kb2_1 : w5.cell? ⟨w3.heap.size, 1, none⟩ = some (.slice ko (takeTextF C).1.length kcap) := (gb_cell hb (b := w3.heap.size) (o := 1) (by first | omega | (simp <;> omega)) (by omega)).trans (by go_simp)
          replace kb2_1f : w5.frozen? ⟨w3.heap.size, 1, none⟩ = false := (gb_frozen hb (b := w3.heap.size) (o := 1) (by first | omega | (simp <;> omega)) (by omega)).trans (by go_simp)
          replace kb2_2 : w5.cell? ⟨w3.heap.size, 2, none⟩ = some (.slice none 0 0) := (gb_cell hb (b := w3.heap.size) (o := 2) (by first | omega | (simp <;> omega)) (by omega)).trans (by go_simp)
          replace kb2_2f : w5.frozen? ⟨w3.heap.size, 2, none⟩ = false := (gb_frozen hb (b := w3.heap.size) (o := 2) (by first | omega | (simp <;> omega)) (by omega)).trans (by go_simp)
          have zb5 := hb.size; (try simp at zb5)
          replace zz : w.heap.size ≤ w5.heap.size := by omega
          replace ybw_heap_size : w.heap.size < w5.heap.size := by omega
          replace ybw1_heap_size : w1.heap.size < w5.heap.size := by omega
          replace ybw3_heap_size : w3.heap.size < w5.heap.size := by omega
          replace gg : Below w.heap.size w w5 := bel_grown (by repeat' (first | (with_reducible exact Below.refl _ _) | (with_reducible assumption) | (with_reducible refine Below.drew ?_) | (with_reducible refine below_drewN ?_ _) | (with_reducible refine bel_alloc ?_ _) | (with_reducible refine Below.setCell ?_ ?_ _) | (with_reducible refine bel_call ?_ (by assumption)) | (simp <;> omega))) hb (by omega)
          have HB5 := Lib.hid hb
          clear hb
          obtain ⟨vo, vcap, rfl, -, -, -, -⟩ := hvv.form
          have zo5 : w3.heap.size < w5.heap.size := by omega
          have GB5 := Lib.hid (gb_trans GB4'.out HB5.out)
          have hg5 : w5.grownBy (w5.setCell ⟨w3.heap.size, 2, none⟩ (.slice vo (takeTextF (textRest C)).1.length vcap)) (some w3.heap.size) := gb_one _
          have gb5' := gb_set GB5.out (p := ⟨w3.heap.size, 2, none⟩) (.inr (by simp only; omega)) (.slice vo (takeTextF (textRest C)).1.length vcap)
          have hr5 := hr.other hg5 (by intro h; have := Option.some.inj h; omega) (fun i hi => by cases hi; omega)
          have hv5 := hvv.kept hg5 (.inr fun e => by have := (hvv.lt _ e).1; simp at this; omega)
          have hk4' := HK4.out.kept HB5.out (.inr fun e => by have := (HK4.out.lt _ e).1; simp at this; omega)
          have hk5 := hk4'.kept hg5 (.inr fun e => by have := (hk4'.lt _ e).1; simp at this; omega)
          have ho5 := hop.out.grown gb5' (by omega)
          have hA0 := (cell_grown hg5 (b := w.heap.size) (o := 0) (by omega) (by intro h; have := Option.some.inj h; omega)).trans kb0_0
          have hA1 := (cell_grown hg5 (b := w.heap.size) (o := 1) (by omega) (by intro h; have := Option.some.inj h; omega)).trans kb0_1
          have hA0f := (frozen_grown hg5 (b := w.heap.size) (o := 0) (by omega) (by intro h; have := Option.some.inj h; omega)).trans kb0_0f
          have hA1f := (frozen_grown hg5 (b := w.heap.size) (o := 1) (by omega) (by intro h; have := Option.some.inj h; omega)).trans kb0_1f
          have hG0 := (cell_grown hg5 (b := w1.heap.size) (o := 0) (by omega) (by intro h; have := Option.some.inj h; omega)).trans kb1_0
          have hG1 := (cell_grown hg5 (b := w1.heap.size) (o := 1) (by omega) (by intro h; have := Option.some.inj h; omega)).trans kb1_1
          have hG0f := (frozen_grown hg5 (b := w1.heap.size) (o := 0) (by omega) (by intro h; have := Option.some.inj h; omega)).trans kb1_0f
          have hG1f := (frozen_grown hg5 (b := w1.heap.size) (o := 1) (by omega) (by intro h; have := Option.some.inj h; omega)).trans kb1_1f
          have hO0 : (w5.setCell ⟨w3.heap.size, 2, none⟩ (.slice vo (takeTextF (textRest C)).1.length vcap)).cell? ⟨w3.heap.size, 0, none⟩ = some (.bool false) := by go_simp
          have hO1 : (w5.setCell ⟨w3.heap.size, 2, none⟩ (.slice vo (takeTextF (textRest C)).1.length vcap)).cell? ⟨w3.heap.size, 1, none⟩ = some (.slice ko (takeTextF C).1.length kcap) := by go_simp
          have hO2 : (w5.setCell ⟨w3.heap.size, 2, none⟩ (.slice vo (takeTextF (textRest C)).1.length vcap)).cell? ⟨w3.heap.size, 2, none⟩ = some (.slice vo (takeTextF (textRest C)).1.length vcap) := by go_simp
          have hgg5 := gg.setCell (p := ⟨w3.heap.size, 2, none⟩) (show w.heap.size ≤ w3.heap.size by omega) (.slice vo (takeTextF (textRest C)).1.length vcap)
          have hz6 : w1.heap.size < (w5.setCell ⟨w3.heap.size, 2, none⟩ (.slice vo (takeTextF (textRest C)).1.length vcap)).heap.size := by simp; omega
          have HK5 := Lib.hid (hk5.mono (show w1.heap.size + 1 ≤ _ by simp; omega))
          have HV5 := Lib.hid (hv5.mono (show w1.heap.size + 1 ≤ _ by simp; omega))
          obtain ⟨w6, hw6⟩ : ∃ w6, w5.setCell ⟨w3.heap.size, 2, none⟩ (.slice vo (takeTextF (textRest C)).1.length vcap) = w6 := ⟨_, rfl⟩
          rw [hw6] at hr5 ho5 hA0 hA1 hA0f hA1f hG0 hG1 hG0f hG1f hO0 hO1 hO2 hgg5 hz6 HK5 HV5
          obtain ⟨xs, hxs1, hxs2⟩ := ho5
          have HR6 := Lib.hid hr5
          have HX6 := Lib.hid hxs1
          have HE6 := Lib.hid hxs2
          have HGG6 := Lib.hid hgg5
          have HG0 := Lib.hid hG0
          have HST : stOp cur = (false, (takeTextF C).1, (takeTextF (textRest C)).1) := E3.out
          have HST := Lib.hid HST
          have RR := Lib.hid (fun v9 w9 => rd_round (v9 := v9) (w9 := w9) hj.out hk (by rw [E1.out, E2.out]; exact HR6.out) hA0 hA0f hA1 hA1f HG0.out hG0f hG1 hG1f HX6.out HE6.out (by rw [HST.out]; exact HK5.out) (by rw [HST.out]; exact HV5.out) HGG6.out zz1 hz6)
          have hn6 : ops.length < 9223372036854775807 := by omega
          have hb6 : (ops.length + 1) * 56 ≤ 140737488355328 := by omega
          clear hr hvv hg5 gb5' hr5 hv5 hk4' hk5 hxs1 hxs2 hgg5 hA0 hA1 hA0f hA1f hG0
          go_wp2_with (at_builtin; (refine wpList_append_cells (w := w6) (base := w1.heap.size + 1) (e := 43) (size := 3) (v := .slice oo ops.length ocap) (.tmp 47) (.tmp 49) _ rfl rfl i1 _ 56 Try.underlying23 HI1.out HY0.out HY1.out HY2.out rfl (by decide) [.bool false, .slice ko (takeTextF C).1.length kcap, .slice vo (takeTextF (textRest C)).1.length vcap] rfl (by intro u hu; simp at hu; rcases hu with rfl | rfl | rfl <;> rfl) rfl rfl HX6.out hn6 hb6 (by omega) ?_; intro v9 w9 hown9 hg9 hb9; have HREL := Lib.hid (RR.out v9 w9 (by rw [HST.out]; exact hown9) hg9); have z9 := hg9.size; have hf9 : w9.frozen? ⟨w1.heap.size, 1, none⟩ = false := (frozen_grown hg9 hz6 (fun he => by have := (HX6.out.lt _ he).1; omega)).trans hG1f; have hc9 : w9.cell? ⟨w1.heap.size, 1, none⟩ = some (.slice oo ops.length ocap) := (cell_grown hg9 hz6 (fun he => by have := (HX6.out.lt _ he).1; omega)).trans hG1; obtain ⟨o9, c9, rfl, -, -, -, -⟩ := own_form hown9; clear hown9 hg9 hb9))
          go_wp2_with fail
          go_roundg ((stL cur).length + (if stB cur then 0 else 1))
          case measure =>
            have := HG.out
            rw [this]
            cases hb : stB cur
            · have := LT hb; simp; omega
            · simp; omega
          case rel => exact HREL.out
        · have hd' : stDel cur = true := by unfold stDel; rw [decide_eq_true_iff]; simpa using hd
          have e1 : stL cur = textRest (cur.drop 1) := by unfold stL; rw [if_pos hd']; rfl
          have e2 : stB cur = textBad (cur.drop 1) (byteBad cur false) := by unfold stB; rw [if_pos hd']; rfl
          have e3 : stOp cur = (true, (takeTextF (cur.drop 1)).1, []) := by unfold stOp; rw [hd', if_pos rfl]
          obtain ⟨C, hC⟩ : ∃ C, cur.drop 1 = C := ⟨_, rfl⟩
          rw [hC] at HBY e1 e2 e3
          have E1 := Lib.hid e1; have E2 := Lib.hid e2; have HST := Lib.hid e3
          clear hC
          rw [List.getD_eq_getElem?_getD] at hd
          clear hd' e1 e2 e3
          -- boxes
          go_wp2_with fail
          refine (HBY.out).mono ?_
          rintro e w6 ⟨rfl, hr, hb⟩
          replace kb0_0 : w6.cell? ⟨w.heap.size, 0, none⟩ = some (.int .u64 0) := (gb_cell hb (b := w.heap.size) (o := 0) (by first | omega | (simp <;> omega)) (by omega)).trans (by go_simp)
          replace kb0_0f : w6.frozen? ⟨w.heap.size, 0, none⟩ = false := (gb_frozen hb (b := w.heap.size) (o := 0) (by first | omega | (simp <;> omega)) (by omega)).trans (by go_simp)
          replace kb0_1 : w6.cell? ⟨w.heap.size, 1, none⟩ = some (.slice none 0 0) := (gb_cell hb (b := w.heap.size) (o := 1) (by first | omega | (simp <;> omega)) (by omega)).trans (by go_simp)
          replace kb0_1f : w6.frozen? ⟨w.heap.size, 1, none⟩ = false := (gb_frozen hb (b := w.heap.size) (o := 1) (by first | omega | (simp <;> omega)) (by omega)).trans (by go_simp)
          replace kb1_0 : w6.cell? ⟨w1.heap.size, 0, none⟩ = some (.int .u64 (hdSeq b)) := (gb_cell hb (b := w1.heap.size) (o := 0) (by first | omega | (simp <;> omega)) (by omega)).trans (by go_simp)
          replace kb1_0f : w6.frozen? ⟨w1.heap.size, 0, none⟩ = false := (gb_frozen hb (b := w1.heap.size) (o := 0) (by first | omega | (simp <;> omega)) (by omega)).trans (by go_simp)
          replace kb1_1 : w6.cell? ⟨w1.heap.size, 1, none⟩ = some (.slice oo ops.length ocap) := (gb_cell hb (b := w1.heap.size) (o := 1) (by first | omega | (simp <;> omega)) (by omega)).trans (by go_simp)
          replace kb1_1f : w6.frozen? ⟨w1.heap.size, 1, none⟩ = false := (gb_frozen hb (b := w1.heap.size) (o := 1) (by first | omega | (simp <;> omega)) (by omega)).trans (by go_simp)
          have zb6 := hb.size; (try simp at zb6)
          replace zz : w.heap.size ≤ w6.heap.size := by omega
          replace ybw_heap_size : w.heap.size < w6.heap.size := by omega
          replace ybw1_heap_size : w1.heap.size < w6.heap.size := by omega
          replace gg : Below w.heap.size w w6 := bel_grown (by repeat' (first | (with_reducible exact Below.refl _ _) | (with_reducible assumption) | (with_reducible refine Below.drew ?_) | (with_reducible refine below_drewN ?_ _) | (with_reducible refine bel_alloc ?_ _) | (with_reducible refine Below.setCell ?_ ?_ _) | (with_reducible refine bel_call ?_ (by assumption)) | (simp <;> omega))) hb (by omega)
          have HB6 := Lib.hid hb
          clear hb
          have HT := Lib.hid (rdText_any w (w6.alloc (.cells #[.bool true, .slice none 0 0, .slice none 0 0] 43)) (w.heap.size + 1) _ _ (hr.below ((Below.refl _ w6).alloc (Nat.le_refl _) _)))
          have GB3 := Lib.hid (gb_alloc HB6.out (.cells #[.bool true, .slice none 0 0, .slice none 0 0] 43))
          have zo3 : w1.heap.size < w6.heap.size := by omega
          clear hr
          -- boxes
          go_wp2_with fail
          refine (HT.out).mono ?_
          rintro e w7 ⟨kv, rfl, hkv, hr, hb⟩
          replace kb0_0 : w7.cell? ⟨w.heap.size, 0, none⟩ = some (.int .u64 0) := (gb_cell hb (b := w.heap.size) (o := 0) (by first | omega | (simp <;> omega)) (by omega)).trans (by go_simp)
          replace kb0_0f : w7.frozen? ⟨w.heap.size, 0, none⟩ = false := (gb_frozen hb (b := w.heap.size) (o := 0) (by first | omega | (simp <;> omega)) (by omega)).trans (by go_simp)
          replace kb0_1 : w7.cell? ⟨w.heap.size, 1, none⟩ = some (.slice none 0 0) := (gb_cell hb (b := w.heap.size) (o := 1) (by first | omega | (simp <;> omega)) (by omega)).trans (by go_simp)
          replace kb0_1f : w7.frozen? ⟨w.heap.size, 1, none⟩ = false := (gb_frozen hb (b := w.heap.size) (o := 1) (by first | omega | (simp <;> omega)) (by omega)).trans (by go_simp)
          replace kb1_0 : w7.cell? ⟨w1.heap.size, 0, none⟩ = some (.int .u64 (hdSeq b)) := (gb_cell hb (b := w1.heap.size) (o := 0) (by first | omega | (simp <;> omega)) (by omega)).trans (by go_simp)
          replace kb1_0f : w7.frozen? ⟨w1.heap.size, 0, none⟩ = false := (gb_frozen hb (b := w1.heap.size) (o := 0) (by first | omega | (simp <;> omega)) (by omega)).trans (by go_simp)
          replace kb1_1 : w7.cell? ⟨w1.heap.size, 1, none⟩ = some (.slice oo ops.length ocap) := (gb_cell hb (b := w1.heap.size) (o := 1) (by first | omega | (simp <;> omega)) (by omega)).trans (by go_simp)
          replace kb1_1f : w7.frozen? ⟨w1.heap.size, 1, none⟩ = false := (gb_frozen hb (b := w1.heap.size) (o := 1) (by first | omega | (simp <;> omega)) (by omega)).trans (by go_simp)
          replace kb2_0 : w7.cell? ⟨w6.heap.size, 0, none⟩ = some (.bool true) := (gb_cell hb (b := w6.heap.size) (o := 0) (by first | omega | (simp <;> omega)) (by omega)).trans (by go_simp)
          replace kb2_0f : w7.frozen? ⟨w6.heap.size, 0, none⟩ = false := (gb_frozen hb (b := w6.heap.size) (o := 0) (by first | omega | (simp <;> omega)) (by omega)).trans (by go_simp)
          replace kb2_1 : w7.cell? ⟨w6.heap.size, 1, none⟩ = some (.slice none 0 0) := (gb_cell hb (b := w6.heap.size) (o := 1) (by first | omega | (simp <;> omega)) (by omega)).trans (by go_simp)
          replace kb2_1f : w7.frozen? ⟨w6.heap.size, 1, none⟩ = false := (gb_frozen hb (b := w6.heap.size) (o := 1) (by first | omega | (simp <;> omega)) (by omega)).trans (by go_simp)
          replace kb2_2 : w7.cell? ⟨w6.heap.size, 2, none⟩ = some (.slice none 0 0) := (gb_cell hb (b := w6.heap.size) (o := 2) (by first | omega | (simp <;> omega)) (by omega)).trans (by go_simp)
          replace kb2_2f : w7.frozen? ⟨w6.heap.size, 2, none⟩ = false := (gb_frozen hb (b := w6.heap.size) (o := 2) (by first | omega | (simp <;> omega)) (by omega)).trans (by go_simp)
          have zb7 := hb.size; (try simp at zb7)
          replace zz : w.heap.size ≤ w7.heap.size := by omega
          replace ybw_heap_size : w.heap.size < w7.heap.size := by omega
          replace ybw1_heap_size : w1.heap.size < w7.heap.size := by omega
          replace ybw6_heap_size : w6.heap.size < w7.heap.size := by omega
          replace gg : Below w.heap.size w w7 := bel_grown (by repeat' (first | (with_reducible exact Below.refl _ _) | (with_reducible assumption) | (with_reducible refine Below.drew ?_) | (with_reducible refine below_drewN ?_ _) | (with_reducible refine bel_alloc ?_ _) | (with_reducible refine Below.setCell ?_ ?_ _) | (with_reducible refine bel_call ?_ (by assumption)) | (simp <;> omega))) hb (by omega)
          have HB7 := Lib.hid hb
          clear hb
          have zo4 : w6.heap.size < w7.heap.size := by omega
          obtain ⟨ko, kcap, rfl, -, -, -, -⟩ := hkv.form
          have GB4 := Lib.hid (gb_trans GB3.out HB7.out)
          have hg5 : w7.grownBy (w7.setCell ⟨w6.heap.size, 1, none⟩ (.slice ko (takeTextF C).1.length kcap)) (some w6.heap.size) := gb_one _
          have gb5' := gb_set GB4.out (p := ⟨w6.heap.size, 1, none⟩) (.inr (by simp only; omega)) (.slice ko (takeTextF C).1.length kcap)
          have hr5 := hr.other hg5 (by intro h; have := Option.some.inj h; omega) (fun i hi => by cases hi; omega)
          have hk5 := hkv.kept hg5 (.inr fun e => by have := (hkv.lt _ e).1; simp at this; omega)
          have ho5 := hop.out.grown gb5' (by omega)
          have hA0 := (cell_grown hg5 (b := w.heap.size) (o := 0) (by omega) (by intro h; have := Option.some.inj h; omega)).trans kb0_0
          have hA1 := (cell_grown hg5 (b := w.heap.size) (o := 1) (by omega) (by intro h; have := Option.some.inj h; omega)).trans kb0_1
          have hA0f := (frozen_grown hg5 (b := w.heap.size) (o := 0) (by omega) (by intro h; have := Option.some.inj h; omega)).trans kb0_0f
          have hA1f := (frozen_grown hg5 (b := w.heap.size) (o := 1) (by omega) (by intro h; have := Option.some.inj h; omega)).trans kb0_1f
          have hG0 := (cell_grown hg5 (b := w1.heap.size) (o := 0) (by omega) (by intro h; have := Option.some.inj h; omega)).trans kb1_0
          have hG1 := (cell_grown hg5 (b := w1.heap.size) (o := 1) (by omega) (by intro h; have := Option.some.inj h; omega)).trans kb1_1
          have hG0f := (frozen_grown hg5 (b := w1.heap.size) (o := 0) (by omega) (by intro h; have := Option.some.inj h; omega)).trans kb1_0f
          have hG1f := (frozen_grown hg5 (b := w1.heap.size) (o := 1) (by omega) (by intro h; have := Option.some.inj h; omega)).trans kb1_1f
          have hO0 : (w7.setCell ⟨w6.heap.size, 1, none⟩ (.slice ko (takeTextF C).1.length kcap)).cell? ⟨w6.heap.size, 0, none⟩ = some (.bool true) := by go_simp
          have hO1 : (w7.setCell ⟨w6.heap.size, 1, none⟩ (.slice ko (takeTextF C).1.length kcap)).cell? ⟨w6.heap.size, 1, none⟩ = some (.slice ko (takeTextF C).1.length kcap) := by go_simp
          have hO2 : (w7.setCell ⟨w6.heap.size, 1, none⟩ (.slice ko (takeTextF C).1.length kcap)).cell? ⟨w6.heap.size, 2, none⟩ = some (.slice none 0 0) := by go_simp
          have hgg5 := gg.setCell (p := ⟨w6.heap.size, 1, none⟩) (show w.heap.size ≤ w6.heap.size by omega) (.slice ko (takeTextF C).1.length kcap)
          have hz6 : w1.heap.size < (w7.setCell ⟨w6.heap.size, 1, none⟩ (.slice ko (takeTextF C).1.length kcap)).heap.size := by simp; omega
          have HK5 := Lib.hid (hk5.mono (show w1.heap.size + 1 ≤ _ by simp; omega))
          obtain ⟨wz, hwz⟩ : ∃ wz, w7.setCell ⟨w6.heap.size, 1, none⟩ (.slice ko (takeTextF C).1.length kcap) = wz := ⟨_, rfl⟩
          rw [hwz] at hr5 ho5 hA0 hA1 hA0f hA1f hG0 hG1 hG0f hG1f hO0 hO1 hO2 hgg5 hz6 HK5
          obtain ⟨xs, hxs1, hxs2⟩ := ho5
          have HR6 := Lib.hid hr5
          have HX6 := Lib.hid hxs1
          have HE6 := Lib.hid hxs2
          have HGG6 := Lib.hid hgg5
          have HG0 := Lib.hid hG0
          have RR := Lib.hid (fun v9 w9 => rd_round (v9 := v9) (w9 := w9) (vv := .slice none 0 0) hj.out hk (by rw [E1.out, E2.out]; exact HR6.out) hA0 hA0f hA1 hA1f HG0.out hG0f hG1 hG1f HX6.out HE6.out (by rw [HST.out]; exact HK5.out) (by rw [HST.out]; exact OwnS.none) HGG6.out zz1 hz6)
          have hn6 : ops.length < 9223372036854775807 := by omega
          have hb6 : (ops.length + 1) * 56 ≤ 140737488355328 := by omega
          clear hr hkv hg5 gb5' hr5 hk5 hxs1 hxs2 hgg5 hA0 hA1 hA0f hA1f hG0
          go_wp2_with (at_builtin; (refine wpList_append_cells (w := wz) (base := w1.heap.size + 1) (e := 43) (size := 3) (v := .slice oo ops.length ocap) (.tmp 47) (.tmp 49) _ rfl rfl i1 _ 56 Try.underlying23 HI1.out HY0.out HY1.out HY2.out rfl (by decide) [.bool true, .slice ko (takeTextF C).1.length kcap, .slice none 0 0] rfl (by intro u hu; simp at hu; rcases hu with rfl | rfl | rfl <;> rfl) rfl rfl HX6.out hn6 hb6 (by omega) ?_; intro v9 w9 hown9 hg9 hb9; have HREL := Lib.hid (RR.out v9 w9 (by rw [HST.out]; exact hown9) hg9); have z9 := hg9.size; have hf9 : w9.frozen? ⟨w1.heap.size, 1, none⟩ = false := (frozen_grown hg9 hz6 (fun he => by have := (HX6.out.lt _ he).1; omega)).trans hG1f; have hc9 : w9.cell? ⟨w1.heap.size, 1, none⟩ = some (.slice oo ops.length ocap) := (cell_grown hg9 hz6 (fun he => by have := (HX6.out.lt _ he).1; omega)).trans hG1; obtain ⟨o9, c9, rfl, -, -, -, -⟩ := own_form hown9; clear hown9 hg9 hb9))
          go_wp2_with fail
          go_roundg ((stL cur).length + (if stB cur then 0 else 1))
          case measure =>
            have := HG.out
            rw [this]
            cases hb : stB cur
            · have := LT hb; simp; omega
            · simp; omega
          case rel => exact HREL.out
      · have HJF := Lib.hid (rdJ_ok (f := f) hj.out hk)
        have hk1 : ¬ (k : Int) < hdMany b := by omega
        have HENC := Lib.hid (encode_any (hdSeq b) hs64 _ ops wr hop.out.isOps)
        clear hgk hk
        go_wp2_with fail
        refine HENC.out.mono ?_
        unfold EncPost
        rintro e w8 ⟨ev, rfl, hev, hb⟩
        have HE := Lib.hid hev
        obtain ⟨eo, ecap, rfl, -, -, -, -⟩ := hev.form
        have HGG := Lib.hid (gg.trans (hb.mono gg.size))
        have z8 := hb.size
        have L0 := (hb.cell (p := ⟨w1.heap.size, 0, none⟩) zw1).trans kb1_0
        have L1 := (hb.cell (p := ⟨w1.heap.size, 1, none⟩) zw1).trans kb1_1
        have M0 := (hb.cell (p := ⟨w.heap.size, 0, none⟩) (by simp only; omega)).trans kb0_0
        have M1 := (hb.cell (p := ⟨w.heap.size, 1, none⟩) (by simp only; omega)).trans kb0_1
        have M0f := (hb.frozen (p := ⟨w.heap.size, 0, none⟩) (by simp only; omega)).trans kb0_0f
        have M1f := (hb.frozen (p := ⟨w.heap.size, 1, none⟩) (by simp only; omega)).trans kb0_1f
        have HOP := Lib.hid (hop.out.below hb)
        have HFB := Lib.hid (HF.out.below HGG.out)
        clear hev hb kb0_0 kb0_1 kb0_0f kb0_1f kb1_0 kb1_1 kb1_0f kb1_1f rc0 rc1 HENC HR2 JJ hrd
        have hcs := encF_cases (hdSeq b) ops
        generalize encF (hdSeq b) ops = R at *
        obtain ⟨x, er⟩ := R
        simp only at HE HJF hcs ⊢
        have hz8 : w1.heap.size < w8.heap.size := by omega
        have hne1 : w1.heap.size ≠ w.heap.size := by omega
        have hne2 : w.heap.size ≠ w1.heap.size := by omega
        have HGFIN := Lib.hid ((HGG.out.drew.setCell (p := ⟨w.heap.size, 0, none⟩) (Nat.le_refl _) (.int .u64 (hdSeq b))).setCell (p := ⟨w.heap.size, 1, none⟩) (Nat.le_refl _) (.slice oo ops.length ocap))
        have HFIN := Lib.hid (((HOP.out.set (p := ⟨w.heap.size, 0, none⟩) (by simp only; omega) (by simp only; omega) (.int .u64 (hdSeq b))).set (p := ⟨w.heap.size, 1, none⟩) (by simp only; omega) (by simp; omega) (.slice oo ops.length ocap)).mono (show w.heap.size ≤ w1.heap.size + 1 by omega))
        clear hj hjl hop HX1
        by_cases he : er = 0
        · subst he
          clear hcs
          have HJ2 : Hid (rdRes f b = (hdSeq b, ops, decide (x = f))) := Lib.hid (by rw [HJF.out]; simp)
          go_wp2_with fail
          go_region_held3 (fun w' => w'.cell? ⟨w1.heap.size, 0, none⟩ = some (.int .u64 (hdSeq b)) ∧ w'.cell? ⟨w1.heap.size, 1, none⟩ = some (.slice oo ops.length ocap)) (first | exact ⟨by assumption, by assumption⟩ | go_keep) ((go_at_call 38; refine (bytesEqual_any _ _ x f w8.drew (show IsB w8 _ _ from HE.out.isB) (show IsB w8 _ _ from HFB.out)).mono ?_; rintro e w9 ⟨rfl, hw⟩; subst hw))
          go_wp2_with fail
          ((try simp only [Exit.inBlock, Exit.then]); refine bodyPost_ret (v := .tuple #[.agg #[.int .u64 (hdSeq b), .slice oo ops.length ocap], .bool (decide (x = f))]) (by simp [results, Try.results26, go_sem]; go_simp) rfl ⟨_, ret_read HJ2.out, by rw [HJ2.out]; exact HFIN.out, HGFIN.out⟩)
        · have HJ2 : Hid (rdRes f b = (hdSeq b, ops, false)) := Lib.hid (by rw [HJF.out, decide_eq_false (fun h => he h.1)])
          have q : (er == 0) = false := beq_eq_false_iff_ne.2 he
          clear he hcs
          go_wp2_with fail
          go_region
          all_goals go_wp2_with fail
          all_goals ((try simp only [Exit.inBlock, Exit.then]); refine bodyPost_ret (v := .tuple #[.agg #[.int .u64 (hdSeq b), .slice oo ops.length ocap], .bool false]) (by simp [results, Try.results26, go_sem]; go_simp) rfl ⟨_, ret_read HJ2.out, by rw [HJ2.out]; exact HFIN.out, HGFIN.out⟩)
    · have HJB := Lib.hid (rdJ_bad (f := f) hj.out)
      clear hgk
      go_wp2_with fail
      all_goals (refine bodyPost_ret (v := .tuple #[.agg #[.int .u64 0, .slice none 0 0], .bool false]) (by simp [results, Try.results26, go_sem]; go_simp) rfl ⟨_, ret_read HJB.out, by rw [HJB.out]; exact OwnOps.nil _ _, (gg.setCell (p := ⟨w.heap.size, 0, none⟩) (Nat.le_refl _) _).setCell (p := ⟨w.heap.size, 1, none⟩) (Nat.le_refl _) _⟩)
end Wal
end Go.Proofs.Ytlfelpbcnpjneaa
