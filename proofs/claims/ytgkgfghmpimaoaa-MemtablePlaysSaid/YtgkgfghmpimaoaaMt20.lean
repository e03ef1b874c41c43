/- memtable: the reference's Get, Steps. -/
import Derived.Test.YtgkgfghmpimaoaaMt19
set_option linter.unusedVariables false
set_option linter.unusedSimpArgs false
namespace Go.Proofs.Ytgkgfghmpimaoaa
open Go.RowKit
namespace Mt
set_option maxRecDepth 100000 in
set_option maxHeartbeats 4000000 in
theorem rget_any {w : World} {rb : Nat} {hs : List Int} {P : Pl} {hv lv : Value} (kv : Value) (key : List Int) (seq : Int) (h : RefR w rb hs P hv lv) (hk : IsB w kv key) :
    Calls Try.prog 10 #[.pointer (some ⟨rb, 0, none⟩), kv, .int .u64 seq] w (GetP (getE (P.map (·.1)) (posF (P.map (·.1)) key seq) key) w) := by
  obtain ⟨lo, lc, rfl, -, -, -⟩ := h.il.form
  obtain ⟨ko, kc, rfl, -, -, -⟩ := hk.form
  have hb0 := bel_alloc (Below.refl _ w) (.cells #[.slice none 0 0, .int .u64 0, .bool false, .slice none 0 0] 32)
  have HC := Lib.hid (rplace_any (.slice ko key.length kc) (.slice none 0 0) (key, seq, false, []) (h.below hb0) (hk.below hb0) (IsB.nil _))
  have hpl := (pos_of key seq _ h.asc).1
  rw [List.length_map] at hpl
  revert HC hpl
  simp only
  generalize posF (P.map (·.1)) key seq = pos
  intro HC hpl
  have H := Lib.hid h
  have HK := Lib.hid hk
  have hlen := h.len
  have c1 := h.c1
  have zr := h.lt
  clear h hk hb0
  go_enter Try.func10, Try.ntmps10
  go_wp2_with fail
  refine HC.out.mono ?_
  unfold RPlP
  rintro e w1 ⟨rfl, hb⟩
  have HB1 : Hid (Below w.heap.size w w1) := Lib.hid (bel_call (bel_alloc (Below.refl _ w) _) hb)
  have z0 : w1.cell? ⟨w.heap.size, 0, none⟩ = some (.slice none 0 0) := (hb.cell (p := ⟨w.heap.size, 0, none⟩) (by simp)).trans (by go_simp)
  have zf0 : w1.frozen? ⟨w.heap.size, 0, none⟩ = false := (hb.frozen (p := ⟨w.heap.size, 0, none⟩) (by simp)).trans (by go_simp)
  have z1 : w1.cell? ⟨w.heap.size, 1, none⟩ = some (.int .u64 0) := (hb.cell (p := ⟨w.heap.size, 1, none⟩) (by simp)).trans (by go_simp)
  have zf1 : w1.frozen? ⟨w.heap.size, 1, none⟩ = false := (hb.frozen (p := ⟨w.heap.size, 1, none⟩) (by simp)).trans (by go_simp)
  have z2 : w1.cell? ⟨w.heap.size, 2, none⟩ = some (.bool false) := (hb.cell (p := ⟨w.heap.size, 2, none⟩) (by simp)).trans (by go_simp)
  have zf2 : w1.frozen? ⟨w.heap.size, 2, none⟩ = false := (hb.frozen (p := ⟨w.heap.size, 2, none⟩) (by simp)).trans (by go_simp)
  have z3 : w1.cell? ⟨w.heap.size, 3, none⟩ = some (.slice none 0 0) := (hb.cell (p := ⟨w.heap.size, 3, none⟩) (by simp)).trans (by go_simp)
  have zf3 : w1.frozen? ⟨w.heap.size, 3, none⟩ = false := (hb.frozen (p := ⟨w.heap.size, 3, none⟩) (by simp)).trans (by go_simp)
  have r1 := (H.out.below HB1.out).c1
  have zr1 := (H.out.below HB1.out).lt
  have zz : w.heap.size < w1.heap.size := Nat.lt_of_lt_of_le (by simp) hb.size
  clear hb c1 zr
  by_cases hpe : pos = P.length
  · have q1 : ((pos : Int) == (P.length : Int)) = true := by rw [beq_iff_eq]; omega
    have HE : Hid (getE (P.map (·.1)) pos key = (zeroE, false)) := Lib.hid (by unfold getE; rw [List.getElem?_eq_none (by rw [List.length_map]; omega)])
    clear hpe
    go_wp2_with fail
    go_quiet (fail)
    go_wp2_with fail
    rw [HE.out]
    refine bodyPost_ret (v := .tuple #[.agg #[.slice none 0 0, .int .u64 0, .bool false, .slice none 0 0], .bool false]) (by simp [results, Try.results10, go_sem]; go_simp) rfl ⟨_, _, rfl, ownS_nil, ownS_nil, ?_⟩
    have hB := HB1.out
    exact (by repeat' (first | (with_reducible exact Below.refl _ _) | (with_reducible assumption) | (with_reducible refine Below.drew ?_) | (with_reducible refine below_drewN ?_ _) | (with_reducible refine bel_alloc ?_ _) | (with_reducible refine Below.setCell ?_ ?_ _) | (with_reducible refine bel_call ?_ (by assumption)) | (simp <;> omega)))
  · have q1 : ((pos : Int) == (P.length : Int)) = false := beq_eq_false_iff_ne.2 (by omega)
    have hml : pos < P.length := by omega
    have q3 : (pos : Int) < P.length := by omega
    have q4 : (0 : Int) ≤ pos := by omega
    obtain ⟨b, o, y, kv2, vv2, hao, zb, hy, n0, n1, n2, n3, n4, hk2, hv2, hu2⟩ := IsNs.at5 (H.out.below HB1.out).il hml
    obtain rfl := hao
    have HSH := Lib.hid (may_short (H.out.each y (List.mem_of_getElem? hy.out)).1)
    have HK2 := Lib.hid hk2.out
    have HV2 := Lib.hid hv2.out
    obtain ⟨ko2, kc2, rfl, -, -, -⟩ := hk2.out.form
    obtain ⟨vo2, vc2, rfl, -, -, -⟩ := hv2.out.form
    have r9 := str_beq HK2.out.rng HK.out.rng
    have cx := fun nq => (HK2.out.below (below_drewN (Below.refl _ w1) nq)).conv (P := Try.prog) Try.underlying29 Try.underlying5 Try.underlying9
    have cy := fun nq => (HK.out.below (below_drewN HB1.out nq)).conv (P := Try.prog) Try.underlying29 Try.underlying5 Try.underlying9
    have HG : Hid (getE (P.map (·.1)) pos key = if y.1.1 = key then (y.1, true) else (zeroE, false)) := Lib.hid (by unfold getE; rw [List.getElem?_map, hy.out]; rfl)
    clear hk2 hv2 hpe
    by_cases hke : y.1.1 = key
    · rw [decide_eq_true hke] at r9
      have HE : Hid (getE (P.map (·.1)) pos key = (y.1, true)) := Lib.hid (by rw [HG.out, if_pos hke])
      clear hke HG
      go_wp2_with fail
      go_quiet (fail)
      go_wp2_with fail
      refine (copy_any _ _ y.1 (w1.drewN _) (HK2.out.below (below_drewN (Below.refl _ w1) _)) (HV2.out.below (below_drewN (Below.refl _ w1) _)) HSH.out).mono ?_
      unfold OwnP
      rintro e w3 ⟨kv3, vv3, rfl, k3, v3, hb3⟩
      replace hb3 : Below w1.heap.size w1 w3 := (below_drewN (Below.refl _ w1) _).trans hb3
      replace k3 : OwnS w3 w1.heap.size 5 kv3 y.1.1 := k3
      replace v3 : OwnS w3 w1.heap.size 5 vv3 y.1.2.2.2 := v3
      have K3 := Lib.hid k3
      have V3 := Lib.hid v3
      obtain ⟨ko3, kc3, rfl, -, -, -, -⟩ := k3.form
      obtain ⟨vo3, vc3, rfl, -, -, -, -⟩ := v3.form
      have e0 : w3.cell? ⟨w.heap.size, 0, none⟩ = some (.slice none 0 0) := (hb3.cell (p := ⟨w.heap.size, 0, none⟩) zz).trans z0
      have ef0 : w3.frozen? ⟨w.heap.size, 0, none⟩ = false := (hb3.frozen (p := ⟨w.heap.size, 0, none⟩) zz).trans zf0
      have e1 : w3.cell? ⟨w.heap.size, 1, none⟩ = some (.int .u64 0) := (hb3.cell (p := ⟨w.heap.size, 1, none⟩) zz).trans z1
      have ef1 : w3.frozen? ⟨w.heap.size, 1, none⟩ = false := (hb3.frozen (p := ⟨w.heap.size, 1, none⟩) zz).trans zf1
      have e2 : w3.cell? ⟨w.heap.size, 2, none⟩ = some (.bool false) := (hb3.cell (p := ⟨w.heap.size, 2, none⟩) zz).trans z2
      have ef2 : w3.frozen? ⟨w.heap.size, 2, none⟩ = false := (hb3.frozen (p := ⟨w.heap.size, 2, none⟩) zz).trans zf2
      have e3 : w3.cell? ⟨w.heap.size, 3, none⟩ = some (.slice none 0 0) := (hb3.cell (p := ⟨w.heap.size, 3, none⟩) zz).trans z3
      have ef3 : w3.frozen? ⟨w.heap.size, 3, none⟩ = false := (hb3.frozen (p := ⟨w.heap.size, 3, none⟩) zz).trans zf3
      have HB3 : Hid (Below w.heap.size w w3) := Lib.hid (bel_call HB1.out hb3)
      have zz3 := Nat.lt_of_lt_of_le zz hb3.size
      have X1 : Hid (∀ w', Chg (fun b => b = w.heap.size) w3 w' → OwnS w' w.heap.size 5 (.slice ko3 y.1.1.length kc3) y.1.1) := Lib.hid fun w' c => (c.ownS K3.out (fun b hb h => by have := (K3.out.lt _ hb).1; omega)).mono (by omega)
      have X2 : Hid (∀ w', Chg (fun b => b = w.heap.size) w3 w' → OwnS w' w.heap.size 5 (.slice vo3 y.1.2.2.2.length vc3) y.1.2.2.2) := Lib.hid fun w' c => (c.ownS V3.out (fun b hb h => by have := (V3.out.lt _ hb).1; omega)).mono (by omega)
      have X3 : Hid (∀ w', Chg (fun b => b = w.heap.size) w3 w' → Below w.heap.size w w') := Lib.hid fun w' c => HB3.out.trans (c.below HB3.out.size fun b hb h => by omega)
      have X0 : Hid (Chg (fun b => b = w.heap.size) w3 w3) := Lib.hid (Chg.refl _ _)
      clear k3 v3 hb3 HC HK HB3 HB1 K3 V3
      go_wp2_with fail
      rw [HE.out]
      have X : Chg (fun b => b = w.heap.size) w3 _ := (((X0.out.set (p := ⟨w.heap.size, 0, none⟩) (fun _ => rfl) (.slice ko3 y.1.1.length kc3)).set (p := ⟨w.heap.size, 1, none⟩) (fun _ => rfl) (.int .u64 y.1.2.1)).set (p := ⟨w.heap.size, 2, none⟩) (fun _ => rfl) (.bool y.1.2.2.1)).set (p := ⟨w.heap.size, 3, none⟩) (fun _ => rfl) (.slice vo3 y.1.2.2.2.length vc3)
      exact bodyPost_ret (v := .tuple #[.agg #[.slice ko3 y.1.1.length kc3, .int .u64 y.1.2.1, .bool y.1.2.2.1, .slice vo3 y.1.2.2.2.length vc3], .bool true]) (by simp [results, Try.results10, go_sem]; go_simp) rfl ⟨_, _, rfl, X1.out _ X, X2.out _ X, X3.out _ X⟩
    · rw [decide_eq_false hke] at r9
      have HE : Hid (getE (P.map (·.1)) pos key = (zeroE, false)) := Lib.hid (by rw [HG.out, if_neg hke])
      clear hke HG
      go_wp2_with fail
      go_quiet (fail)
      go_wp2_with fail
      rw [HE.out]
      refine bodyPost_ret (v := .tuple #[.agg #[.slice none 0 0, .int .u64 0, .bool false, .slice none 0 0], .bool false]) (by simp [results, Try.results10, go_sem]; go_simp) rfl ⟨_, _, rfl, ownS_nil, ownS_nil, ?_⟩
      have hB := HB1.out
      exact (by repeat' (first | (with_reducible exact Below.refl _ _) | (with_reducible assumption) | (with_reducible refine Below.drew ?_) | (with_reducible refine below_drewN ?_ _) | (with_reducible refine bel_alloc ?_ _) | (with_reducible refine Below.setCell ?_ ?_ _) | (with_reducible refine bel_call ?_ (by assumption)) | (simp <;> omega)))
theorem scan_cons {j pos k a : Nat} {H : List Nat} {h : Nat} (hh : H[k]? = some h) : scanL j pos (H.drop k) k a = if h ≤ j then scanL j pos (H.drop (k + 1)) (k + 1) a else if pos ≤ k then (1, a) else ((scanL j pos (H.drop (k + 1)) (k + 1) (k + 1)).1 + 1, (scanL j pos (H.drop (k + 1)) (k + 1) (k + 1)).2) := by
  obtain ⟨h1, h2⟩ := List.getElem?_eq_some_iff.1 hh
  rw [List.drop_eq_getElem_cons h1, h2]
  rfl
set_option maxRecDepth 100000 in
set_option maxHeartbeats 4000000 in
theorem rsteps_any {w : World} {rb : Nat} {hs : List Int} {P : Pl} {hv lv : Value} (kv : Value) (key : List Int) (seq : Int) (h : RefR w rb hs P hv lv) (hk : IsB w kv key) :
    Calls Try.prog 19 #[.pointer (some ⟨rb, 0, none⟩), kv, .int .u64 seq] w (Ret (.int .i64 (lvl (P.map (·.2)) (posF (P.map (·.1)) key seq) 12).1) w) := by
  obtain ⟨lo, lc, rfl, -, -, -⟩ := h.il.form
  obtain ⟨ko, kc, rfl, -, -, -⟩ := hk.form
  have HC := Lib.hid (rplace_any (.slice ko key.length kc) (.slice none 0 0) (key, seq, false, []) h hk (IsB.nil _))
  have hpl := (pos_of key seq _ h.asc).1
  rw [List.length_map] at hpl
  revert HC hpl
  simp only
  generalize posF (P.map (·.1)) key seq = pos
  intro HC hpl
  have H := Lib.hid h
  have hlen := h.len
  have HL : Hid (∀ m, (lvl (P.map (·.2)) pos m).2 ≤ P.length ∧ (lvl (P.map (·.2)) pos m).1 ≤ m * P.length) := Lib.hid fun m => by
    have := lvl_le (P.map (·.2)) pos m
    rwa [List.length_map] at this
  have c1 := h.c1
  have zr := h.lt
  clear h hk
  go_enter Try.func19, Try.ntmps19
  go_wp2_with fail
  refine HC.out.mono ?_
  unfold RPlP
  rintro e w1 ⟨rfl, hb⟩
  have HB1 : Hid (Below w.heap.size w w1) := Lib.hid hb
  have H1 := Lib.hid (H.out.below hb)
  have r1 := H1.out.c1
  have zr1 := H1.out.lt
  clear c1 zr hb HC
  go_wp2_with fail
  go_loopw [9, 10, 11, 12] (fun n a i _ wr => ∃ m : Nat, m ≤ 12 ∧ i = .int .i64 (11 - (m : Int)) ∧ n = .int .i64 (lvl (P.map (·.2)) pos m).1 ∧ a = .int .i64 (((lvl (P.map (·.2)) pos m).2 : Int) - 1) ∧ wr = w1) (fun _ _ i _ _ => (intOf i + 1).toNat)
  case atStart => exact ⟨0, by omega, by go_num, by unfold lvl; go_num, by unfold lvl; go_num, rfl⟩
  case round =>
    obtain ⟨m, hm, rfl, rfl, rfl, hw⟩ := hrel
    obtain rfl := hw.symm
    have hl1 := HL.out m
    by_cases hm2 : m < 12
    · obtain ⟨j, hj⟩ : ∃ j, j = 11 - m := ⟨_, rfl⟩
      have ej : (11 : Int) - m = j := by omega
      rw [ej]
      have hl2 := HL.out (m + 1)
      have hlv1 : (lvl (P.map (·.2)) pos (m + 1)).1 = (lvl (P.map (·.2)) pos m).1 + (scanL j pos ((P.map (·.2)).drop (lvl (P.map (·.2)) pos m).2) (lvl (P.map (·.2)) pos m).2 (lvl (P.map (·.2)) pos m).2).1 := by rw [hj]; rfl
      have hlv2 : (lvl (P.map (·.2)) pos (m + 1)).2 = (scanL j pos ((P.map (·.2)).drop (lvl (P.map (·.2)) pos m).2) (lvl (P.map (·.2)) pos m).2 (lvl (P.map (·.2)) pos m).2).2 := by rw [hj]; rfl
      have HT : Hid ((lvl (P.map (·.2)) pos (m + 1)).1 ≤ 12000) := Lib.hid (by
        have h9 : (m + 1) * P.length ≤ 12 * 1000 := Nat.mul_le_mul (by omega) hlen
        have := hl2.2
        omega)
      have HV1 := Lib.hid hlv1
      have HV2 := Lib.hid hlv2
      have HJ := Lib.hid hj
      have HM := Lib.hid hm
      have HM2 := Lib.hid hm2
      have HE1 : Hid (∃ x : Nat × Nat, lvl (P.map (·.2)) pos m = x) := ⟨_, rfl⟩
      clear hlv1 hlv2 hl2 ej hm
      revert HV1 HV2 hl1
      generalize hT9 : lvl (P.map (·.2)) pos (m + 1) = T at *
      have HT9 := Lib.hid hT9
      clear hT9
      generalize lvl (P.map (·.2)) pos m = x0
      obtain ⟨n0, a0⟩ := x0
      intro hl1 HV1 HV2
      simp only at HV1 HV2 hl1 ⊢
      have hl3 := hl1.1
      have q0 := IntWalk.i64_in ((a0 : Int) - 1 + 1) (by omega)
      have q1 := IntWalk.i64_in ((j : Int) - 1) (by omega)
      have q2 : (0 : Int) ≤ j := by omega
      clear hj hm2 hl1 HE1
      go_wp2_with fail
      go_loopw [9, 10, 12] (fun n a k wr => ∃ n1 a1 k1 : Nat, n = .int .i64 n1 ∧ a = .int .i64 ((a1 : Int) - 1) ∧ k = .int .i64 k1 ∧ a1 ≤ k1 ∧ k1 ≤ P.length ∧ Hid (n1 + (scanL j pos ((P.map (·.2)).drop k1) k1 a1).1 = T.1) ∧ Hid ((scanL j pos ((P.map (·.2)).drop k1) k1 a1).2 = T.2) ∧ wr = w1) (fun _ _ k _ => P.length - (intOf k).toNat)
      case atStart => exact ⟨n0, a0, a0, rfl, rfl, by go_num, Nat.le_refl _, hl3, HV1.out.symm, HV2.out.symm, rfl⟩
      case round =>
        obtain ⟨n1, a1, k1, rfl, rfl, rfl, hak, hkp, hs1, hs2, hw⟩ := hrel
        obtain rfl := hw.symm
        have hT := HT.out
        have hn1 : n1 ≤ 12000 := by have := hs1.out; omega
        by_cases hkl : k1 < P.length
        · have p0 : (k1 : Int) < P.length := by omega
          have p1 := IntWalk.i64_in ((k1 : Int) + 1) (by omega)
          have p2 := IntWalk.i64_in ((n1 : Int) + 1) (by omega)
          obtain ⟨b, o, y, kv2, vv2, hao, zb, hy, c0, c1, c2, c3, c4, hk2, hv2, hu2⟩ := IsNs.at5 H1.out.il hkl
          obtain rfl := hao
          have sc := scan_cons (j := j) (pos := pos) (a := a1) (H := P.map (·.2)) (k := k1) (h := y.2) (by rw [List.getElem?_map, hy.out]; rfl)
          clear hk2 hv2 hu2 c0 c1 c2 c3 hy
          by_cases hh : y.2 ≤ j
          · rw [if_pos hh] at sc
            have p3 : (y.2 : Int) ≤ j := by omega
            have HS1 := Lib.hid hs1.out
            have HS2 := Lib.hid hs2.out
            rw [sc] at HS1 HS2
            clear sc hs1 hs2 hh
            go_wp2_with fail
            refine ⟨⟨n1, a1, k1 + 1, rfl, rfl, by go_num, by omega, by omega, HS1.out, HS2.out, trivial⟩, ?_⟩
            simp [intOf]
            omega
          · rw [if_neg hh] at sc
            have p3 : ¬ (y.2 : Int) ≤ j := by omega
            by_cases hpk : pos ≤ k1
            · rw [if_pos hpk] at sc
              have p4 : (pos : Int) ≤ k1 := by omega
              have HS1 := Lib.hid hs1.out
              have HS2 := Lib.hid hs2.out
              rw [sc] at HS1 HS2
              clear sc hs1 hs2 hh hpk
              go_wp2_with fail
              go_roundw
              case rel =>
                have h8 := HM2.out
                have h9 : n1 + 1 = T.1 := HS1.out
                have h7 : a1 = T.2 := HS2.out
                have h6 := HJ.out
                exact ⟨m + 1, by omega, by go_num, by rw [HT9.out, ← h9]; go_num, by rw [HT9.out, ← h7], trivial⟩
              case measure =>
                have h8 := HM2.out
                have h6 := HJ.out
                simp [intOf] <;> omega
            · rw [if_neg hpk] at sc
              have p4 : ¬ (pos : Int) ≤ k1 := by omega
              have HS1 := Lib.hid hs1.out
              have HS2 := Lib.hid hs2.out
              rw [sc] at HS1 HS2
              clear sc hs1 hs2 hh hpk
              go_wp2_with fail
              refine ⟨⟨n1 + 1, k1 + 1, k1 + 1, by go_num, by go_num, by go_num, by omega, by omega, Lib.hid (by have := HS1.out; simp only at this; omega), HS2.out, trivial⟩, ?_⟩
              simp [intOf]
              omega
        · have hke : k1 = P.length := by omega
          subst hke
          have HS1 := Lib.hid hs1.out
          have HS2 := Lib.hid hs2.out
          rw [List.drop_of_length_le (by simp)] at HS1 HS2
          clear hs1 hs2 hkl
          go_wp2_with fail
          go_roundw
          case rel =>
            have h8 := HM2.out
            have h9 : n1 + 0 = T.1 := HS1.out
            have h7 : a1 = T.2 := HS2.out
            have h6 := HJ.out
            exact ⟨m + 1, by omega, by go_num, by rw [HT9.out, ← h9]; rfl, by rw [HT9.out, ← h7], trivial⟩
          case measure =>
            have h8 := HM2.out
            have h6 := HJ.out
            simp [intOf] <;> omega
    · have hm3 : m = 12 := by omega
      subst hm3
      have ej : (11 : Int) - ((12 : Nat) : Int) = -1 := by omega
      rw [ej]
      clear hm hm2 ej hl1
      go_wp2_with fail
      go_ret
      exact ⟨rfl, HB1.out⟩
end Mt
end Go.Proofs.Ytgkgfghmpimaoaa
