/- memtable: the reference's Bytes, Level, Scan. -/
import Derived.Test.YtgkgfghmpimaoaaMt18
set_option linter.unusedVariables false
set_option linter.unusedSimpArgs false
namespace Go.Proofs.Ytgkgfghmpimaoaa
open Go.RowKit
namespace Mt
theorem take_snoc' {α : Type} {l : List α} {k : Nat} {x : α} (h : l[k]? = some x) : l.take (k + 1) = l.take k ++ [x] := by
  rw [List.take_add_one, h]
  rfl
theorem bytesE_le {l : List En} (h : ∀ x ∈ l, mayB x = true) : bytesE l ≤ 65808 * l.length := by
  induction l with
  | nil => simp [bytesE]
  | cons x l ih =>
    have h1 := ih fun y hy => h y (List.mem_cons_of_mem _ hy)
    have h2 := h x (List.mem_cons_self ..)
    unfold mayB at h2
    simp only [Bool.and_eq_true, decide_eq_true_eq] at h2
    unfold bytesE at h1 ⊢
    rw [List.map_cons, List.sum_cons, List.length_cons]
    unfold sizeE at h1 ⊢
    omega
theorem bytesE_snoc (l : List En) (x : En) : bytesE (l ++ [x]) = bytesE l + sizeE x := by
  unfold bytesE
  simp
set_option maxRecDepth 100000 in
set_option maxHeartbeats 4000000 in
theorem rbytes_any {w : World} {rb : Nat} {hs : List Int} {P : Pl} {hv lv : Value} (h : RefR w rb hs P hv lv) : Calls Try.prog 26 #[.pointer (some ⟨rb, 0, none⟩)] w (Ret (.int .i64 (bytesE (P.map (·.1)))) w) := by
  obtain ⟨lo, lc, rfl, -, -, -⟩ := h.il.form
  have H := Lib.hid h
  have hlen := h.len
  have c1 := h.c1
  have zr := h.lt
  clear h
  go_enter Try.func26, Try.ntmps26
  go_wp2_with fail
  go_loopw [3, 4] (fun n i wr => ∃ k : Nat, i = .int .i64 k ∧ n = .int .i64 (bytesE ((P.take k).map (·.1))) ∧ k ≤ P.length ∧ Hid (Below w.heap.size w wr)) (fun _ i _ => P.length - (intOf i).toNat)
  case atStart => exact ⟨0, rfl, rfl, Nat.zero_le _, Below.refl _ _⟩
  case round =>
    obtain ⟨k, rfl, rfl, hk, hbel⟩ := hrel
    have r1 := (H.out.below hbel.out).c1
    have zr2 := (H.out.below hbel.out).lt
    clear c1 zr
    by_cases hkp : k < P.length
    · have q0 : (k : Int) < P.length := by omega
      have q5 := IntWalk.i64_in ((k : Int) + 1) (by omega)
      obtain ⟨b, o, y, kv2, vv2, hao, zb, hy, n0, n1, n2, n3, n4, hk2, hv2, hu2⟩ := IsNs.at5 (H.out.below hbel.out).il hkp
      obtain rfl := hao
      obtain ⟨ko2, kc2, rfl, -, -, -⟩ := hk2.out.form
      obtain ⟨vo2, vc2, rfl, -, -, -⟩ := hv2.out.form
      have hs9 := may_short (H.out.each y (List.mem_of_getElem? hy.out)).1
      have hbb := bytesE_le (l := (P.take k).map (·.1)) (fun x hx => by
        obtain ⟨p, hp, rfl⟩ := List.mem_map.1 hx
        exact (H.out.each p (List.mem_of_mem_take hp)).1)
      rw [List.length_map, List.length_take] at hbb
      have hE : bytesE ((P.take (k + 1)).map (·.1)) = bytesE ((P.take k).map (·.1)) + sizeE y.1 := by
        rw [take_snoc' hy.out, List.map_append, List.map_cons, List.map_nil, bytesE_snoc]
      unfold sizeE at hE
      unfold Short at hs9
      have HE := Lib.hid hE
      clear hE
      generalize bytesE ((P.take k).map (·.1)) = n9 at *
      have q1 := IntWalk.i64_in ((n9 : Int) + (y.1.1.length : Int)) (by omega)
      have q2 := IntWalk.i64_in ((n9 : Int) + (y.1.1.length : Int) + (y.1.2.2.2.length : Int)) (by omega)
      have q3 := IntWalk.i64_in ((n9 : Int) + (y.1.1.length : Int) + (y.1.2.2.2.length : Int) + 16) (by omega)
      clear hk2 hv2 hu2 n4 hy hbb hs9
      go_wp2_with fail
      go_quiet (fail)
      go_wp2_with fail
      refine ⟨⟨k + 1, by go_num, ?_, by omega, below_drewN hbel.out _⟩, ?_⟩
      · rw [HE.out]
        go_num
      · simp [intOf]
        omega
    · have hke : k = P.length := by omega
      subst hke
      rw [List.take_length]
      clear hkp
      go_wp2_with fail
      go_ret
      exact ⟨rfl, hbel.out⟩
def atLv (i : Nat) (P : Pl) : List En := (P.filter fun p => decide ((i : Int) < p.2)).map (·.1)
theorem atLv_le (i : Nat) (P : Pl) (k : Nat) : (atLv i (P.take k)).length ≤ k := by
  unfold atLv
  rw [List.length_map]
  refine Nat.le_trans (List.length_filter_le _ _) ?_
  rw [List.length_take]
  omega
theorem atLv_snoc (i : Nat) (P : Pl) (p : En × Nat) : atLv i (P ++ [p]) = atLv i P ++ if (i : Int) < p.2 then [p.1] else [] := by
  unfold atLv
  rw [List.filter_append, List.map_append, List.filter_cons]
  congr 1
  by_cases h : (i : Int) < p.2
  · rw [if_pos (decide_eq_true h), if_pos h]
    rfl
  · rw [if_neg (by rw [decide_eq_false h]; decide), if_neg h]
    rfl
set_option maxRecDepth 100000 in
set_option maxHeartbeats 4000000 in
theorem rlevel_any {w : World} {rb : Nat} {hs : List Int} {P : Pl} {hv lv : Value} (i : Int) (h : RefR w rb hs P hv lv) : Calls Try.prog 17 #[.pointer (some ⟨rb, 0, none⟩), .int .i64 i] w (LevelP (levelF P i) w) := by
  obtain ⟨i0, hi0, hz0, hz1, hz2⟩ := info_parts infoEn
  have HI := Lib.hid hi0; have HZ0 := Lib.hid hz0; have HZ1 := Lib.hid hz1; have HZ2 := Lib.hid hz2
  clear hi0 hz0 hz1 hz2
  obtain ⟨lo, lc, rfl, -, -, -⟩ := h.il.form
  have H := Lib.hid h
  have hlen := h.len
  have c1 := h.c1
  have zr := h.lt
  clear h
  by_cases h0 : (0 : Int) ≤ i
  · obtain ⟨j, rfl⟩ : ∃ j : Nat, i = (j : Int) := ⟨i.toNat, by omega⟩
    have HE : Hid (levelF P (j : Int) = atLv j P) := Lib.hid (by unfold levelF atLv; rw [if_pos h0])
    go_enter Try.func17, Try.ntmps17
    go_wp2_with fail
    go_loopw [5, 6] (fun v i wr => ∃ k : Nat, i = .int .i64 k ∧ k ≤ P.length ∧ Hid (OwnEs wr w.heap.size v (atLv j (P.take k))) ∧ Hid (Below w.heap.size w wr)) (fun _ i _ => P.length - (intOf i).toNat)
    case atStart => exact ⟨0, rfl, Nat.zero_le _, ownEs_nil, Below.refl _ _⟩
    case round =>
      obtain ⟨k, rfl, hk, hown, hbel⟩ := hrel
      have r1 := (H.out.below hbel.out).c1
      have zr2 := (H.out.below hbel.out).lt
      clear c1 zr
      by_cases hkp : k < P.length
      · have q0 : (k : Int) < P.length := by omega
        have q5 := IntWalk.i64_in ((k : Int) + 1) (by omega)
        obtain ⟨b, o, y, kv2, vv2, hao, zb, hy, n0, n1, n2, n3, n4, hk2, hv2, hu2⟩ := IsNs.at5 (H.out.below hbel.out).il hkp
        obtain rfl := hao
        obtain ⟨ko2, kc2, rfl, -, -, -⟩ := hk2.out.form
        obtain ⟨vo2, vc2, rfl, -, -, -⟩ := hv2.out.form
        have HSH := Lib.hid (may_short (H.out.each y (List.mem_of_getElem? hy.out)).1)
        have HO := Lib.hid (copy_any _ _ y.1 wr hk2.out hv2.out HSH.out)
        by_cases hj : (j : Int) < y.2
        · have HTK : Hid (atLv j (P.take (k + 1)) = atLv j (P.take k) ++ [y.1]) := Lib.hid (by rw [take_snoc' hy.out, atLv_snoc, if_pos hj])
          have HLE := Lib.hid (atLv_le j P k)
          clear hk2 hv2 hy
          obtain ⟨rs, hrs, hro, hrg⟩ := hown.out
          have hlr := congrArg List.length hrs
          rw [List.length_map] at hlr
          have hrl : rs.length ≤ k := by rw [hlr]; exact HLE.out
          rw [← hlr] at hro
          obtain ⟨so, sc, rfl, -, -, -, -⟩ := own_form hro
          have HRS := Lib.hid hrs; have HRO := Lib.hid hro; have HRG := Lib.hid hrg; have HU := Lib.hid hu2
          clear hrs hro hrg hlr hu2 hown
          go_wp2_with fail
          refine HO.out.mono ?_
          unfold OwnP
          rintro e w2 ⟨v1, v2, rfl, h1, h2, hb⟩
          have H1 := Lib.hid h1; have H2 := Lib.hid h2; have G2 := Lib.hid hb
          obtain ⟨fo1, fc1, rfl, -, -, -, -⟩ := h1.form
          obtain ⟨to1, tc1, rfl, -, -, -, -⟩ := h2.form
          have z2 := hbel.out.size
          have z3 := G2.out.size
          clear h1 h2 hb n0 n1 n2 n3 n4
          go_wp2_with (at_builtin; refine wpList_append_cells (w := w2.alloc (.cells #[.slice fo1 y.1.1.length fc1, .int .u64 y.1.2.1, .bool y.1.2.2.1, .slice to1 y.1.2.2.2.length tc1] 32)) (base := w.heap.size) (size := 4) (n := rs.length) (xs := rs.flatMap c4) (.tmp 40) (.tmp 42) _ rfl rfl i0 _ 64 Try.underlying39 HI.out HZ0.out HZ1.out HZ2.out rfl (by decide) [.slice fo1 y.1.1.length fc1, .int .u64 y.1.2.1, .bool y.1.2.2.1, .slice to1 y.1.2.2.2.length tc1] rfl (by intro u hu; simp only [List.mem_cons, List.not_mem_nil, or_false] at hu; rcases hu with rfl | rfl | rfl | rfl <;> rfl) rfl (by simp [go_sem]) ((own_below HRO.out G2.out).alloc _) (by omega) (by omega) (by simp; omega) ?_; intro v3 w3 ho3 hg3 hk3; have HO3 := Lib.hid ho3; have HG3 := Lib.hid hg3; have HB2 : Hid (Below w.heap.size w (w2.alloc (.cells #[.slice fo1 y.1.1.length fc1, .int .u64 y.1.2.1, .bool y.1.2.2.1, .slice to1 y.1.2.2.2.length tc1] 32))) := Lib.hid (bel_alloc (bel_call hbel.out G2.out) _); have HBEL : Hid (Below w.heap.size w w3) := Lib.hid (bel_own HB2.out HG3.out ((own_below HRO.out G2.out).alloc _)); clear ho3 hg3 hk3)
          have HNEW : Hid (OwnEs w3 w.heap.size v3 (atLv j (P.take (k + 1)))) := Lib.hid (by
            rw [HTK.out, ← HRS.out]
            exact OwnEs.push (r := (y.1, .slice fo1 y.1.1.length fc1, .slice to1 y.1.2.2.2.length tc1)) (w := w2.alloc (.cells #[.slice fo1 y.1.1.length fc1, .int .u64 y.1.2.1, .bool y.1.2.2.1, .slice to1 y.1.2.2.2.length tc1] 32)) ((own_below HRO.out G2.out).alloc _) (fun r hr => ((HRG.out r hr).below G2.out).below (bel_alloc (Below.refl _ _) _)) ⟨(H1.out.mono (by omega)).below (bel_alloc (Below.refl _ _) _), (H2.out.mono (by omega)).below (bel_alloc (Below.refl _ _) _), HU.out⟩ HO3.out HG3.out)
          go_wp2_with fail
          refine ⟨⟨k + 1, by go_num, by omega, HNEW.out, HBEL.out⟩, ?_⟩
          simp [intOf]
          omega
        · have HTK : Hid (atLv j (P.take (k + 1)) = atLv j (P.take k)) := Lib.hid (by rw [take_snoc' hy.out, atLv_snoc, if_neg hj, List.append_nil])
          clear hk2 hv2 hy
          go_wp2_with fail
          refine ⟨⟨k + 1, by go_num, by omega, by rw [HTK.out]; exact hown.out, hbel.out⟩, ?_⟩
          simp [intOf]
          omega
      · have hke : k = P.length := by omega
        subst hke
        rw [List.take_length] at hown
        clear hkp
        go_wp2_with fail
        go_ret
        rw [HE.out]
        exact ⟨_, rfl, hown.out, hbel.out⟩
  · have HE : Hid (levelF P i = []) := Lib.hid (if_neg h0)
    go_enter Try.func17, Try.ntmps17
    go_wp2_with fail
    go_loopw [5, 6] (fun v i wr => v = .slice none 0 0 ∧ i = .int .i64 0 ∧ wr = w) (fun _ _ _ => 0)
    case atStart => exact ⟨rfl, rfl, rfl⟩
    case round =>
      obtain ⟨rfl, rfl, rfl⟩ := hrel
      by_cases hp : 0 < P.length
      · have q0 : (0 : Int) < P.length := by omega
        go_wp2_with fail
        go_ret
        rw [HE.out]
        exact ⟨_, rfl, ownEs_nil, Below.refl _ _⟩
      · have q0 : ¬ (0 : Int) < P.length := by omega
        go_wp2_with fail
        go_ret
        rw [HE.out]
        exact ⟨_, rfl, ownEs_nil, Below.refl _ _⟩
def fromE (key : List Int) (P : Pl) : List En := (P.filter fun p => decide (0 ≤ cmpB p.1.1 key)).map (·.1)
theorem fromE_le (key : List Int) (P : Pl) (k : Nat) : (fromE key (P.take k)).length ≤ k := by
  unfold fromE
  rw [List.length_map]
  refine Nat.le_trans (List.length_filter_le _ _) ?_
  rw [List.length_take]
  omega
theorem fromE_snoc (key : List Int) (P : Pl) (p : En × Nat) : fromE key (P ++ [p]) = fromE key P ++ if 0 ≤ cmpB p.1.1 key then [p.1] else [] := by
  unfold fromE
  rw [List.filter_append, List.map_append]
  congr 1
  by_cases h : 0 ≤ cmpB p.1.1 key <;> simp [h]
set_option maxRecDepth 100000 in
set_option maxHeartbeats 4000000 in
theorem rscan_any {w : World} {rb : Nat} {hs : List Int} {P : Pl} {hv lv : Value} (fv : Value) (key : List Int) (h : RefR w rb hs P hv lv) (hf : IsB w fv key) : Calls Try.prog 14 #[.pointer (some ⟨rb, 0, none⟩), fv] w (LevelP (fromE key P) w) := by
  obtain ⟨i0, hi0, hz0, hz1, hz2⟩ := info_parts infoEn
  have HI := Lib.hid hi0; have HZ0 := Lib.hid hz0; have HZ1 := Lib.hid hz1; have HZ2 := Lib.hid hz2
  clear hi0 hz0 hz1 hz2
  obtain ⟨lo, lc, rfl, -, -, -⟩ := h.il.form
  obtain ⟨xo, xc, rfl, -, -, -⟩ := hf.form
  have H := Lib.hid h
  have HF := Lib.hid hf
  have hlen := h.len
  have c1 := h.c1
  have zr := h.lt
  clear h hf
  go_enter Try.func14, Try.ntmps14
  go_wp2_with fail
  go_loopw [5, 6] (fun v i wr => ∃ k : Nat, i = .int .i64 k ∧ k ≤ P.length ∧ Hid (OwnEs wr w.heap.size v (fromE key (P.take k))) ∧ Hid (Below w.heap.size w wr)) (fun _ i _ => P.length - (intOf i).toNat)
  case atStart => exact ⟨0, rfl, Nat.zero_le _, ownEs_nil, Below.refl _ _⟩
  case round =>
    obtain ⟨k, rfl, hk, hown, hbel⟩ := hrel
    have r1 := (H.out.below hbel.out).c1
    have zr2 := (H.out.below hbel.out).lt
    clear c1 zr
    by_cases hkp : k < P.length
    · have q0 : (k : Int) < P.length := by omega
      have q5 := IntWalk.i64_in ((k : Int) + 1) (by omega)
      obtain ⟨b, o, y, kv2, vv2, hao, zb, hy, n0, n1, n2, n3, n4, hk2, hv2, hu2⟩ := IsNs.at5 (H.out.below hbel.out).il hkp
      obtain rfl := hao
      have HSH := Lib.hid (may_short (H.out.each y (List.mem_of_getElem? hy.out)).1)
      have HC := Lib.hid (Codec.rCompare_any _ _ y.1.1 key wr hk2.out (HF.out.below hbel.out))
      have HK2 := Lib.hid hk2.out
      have HV2 := Lib.hid hv2.out
      obtain ⟨ko2, kc2, rfl, -, -, -⟩ := hk2.out.form
      obtain ⟨vo2, vc2, rfl, -, -, -⟩ := hv2.out.form
      clear hk2 hv2
      go_wp2_with fail
      refine HC.out.mono ?_
      rintro e wq ⟨rfl, hbq⟩
      have HBQ := Lib.hid hbq
      have r1' : wq.cell? ⟨rb, 1, none⟩ = some (.slice (some ⟨b, o, none⟩) P.length lc) := (hbq.cell (p := ⟨rb, 1, none⟩) zr2).trans r1
      have m0 := (hbq.cell (p := ⟨b, o + k * 5, none⟩) zb).trans n0
      have m1 := (hbq.cell (p := ⟨b, o + k * 5 + 1, none⟩) zb).trans n1
      have m2 := (hbq.cell (p := ⟨b, o + k * 5 + 2, none⟩) zb).trans n2
      have m3 := (hbq.cell (p := ⟨b, o + k * 5 + 3, none⟩) zb).trans n3
      have zr3 := Nat.lt_of_lt_of_le zr2 hbq.size
      have zb3 := Nat.lt_of_lt_of_le zb hbq.size
      have HO := Lib.hid (copy_any _ _ y.1 wq (HK2.out.below hbq) (HV2.out.below hbq) HSH.out)
      replace hown := Lib.hid (hown.out.below hbq)
      replace hbel := Lib.hid (bel_call hbel.out hbq)
      clear hbq n0 n1 n2 n3 n4 r1 zr2 zb
      by_cases hj : 0 ≤ cmpB y.1.1 key
      · have HTK : Hid (fromE key (P.take (k + 1)) = fromE key (P.take k) ++ [y.1]) := Lib.hid (by rw [take_snoc' hy.out, fromE_snoc, if_pos hj])
        have HLE := Lib.hid (fromE_le key P k)
        clear hy
        have n0 := m0
        have n1 := m1
        have n2 := m2
        have n3 := m3
        have n4 := zb3
        clear m0 m1 m2 m3 zb3
        obtain ⟨rs, hrs, hro, hrg⟩ := hown.out
        have hlr := congrArg List.length hrs
        rw [List.length_map] at hlr
        have hrl : rs.length ≤ k := by rw [hlr]; exact HLE.out
        rw [← hlr] at hro
        obtain ⟨so, sc, rfl, -, -, -, -⟩ := own_form hro
        have HRS := Lib.hid hrs; have HRO := Lib.hid hro; have HRG := Lib.hid hrg; have HU := Lib.hid hu2
        clear hrs hro hrg hlr hu2 hown
        go_wp2_with fail
        refine HO.out.mono ?_
        unfold OwnP
        rintro e w2 ⟨v1, v2, rfl, h1, h2, hb⟩
        have H1 := Lib.hid h1; have H2 := Lib.hid h2; have G2 := Lib.hid hb
        obtain ⟨fo1, fc1, rfl, -, -, -, -⟩ := h1.form
        obtain ⟨to1, tc1, rfl, -, -, -, -⟩ := h2.form
        have z2 := hbel.out.size
        have z3 := G2.out.size
        clear h1 h2 hb n0 n1 n2 n3
        go_wp2_with (at_builtin; refine wpList_append_cells (w := w2.alloc (.cells #[.slice fo1 y.1.1.length fc1, .int .u64 y.1.2.1, .bool y.1.2.2.1, .slice to1 y.1.2.2.2.length tc1] 32)) (base := w.heap.size) (size := 4) (n := rs.length) (xs := rs.flatMap c4) (.tmp 40) (.tmp 42) _ rfl rfl i0 _ 64 Try.underlying39 HI.out HZ0.out HZ1.out HZ2.out rfl (by decide) [.slice fo1 y.1.1.length fc1, .int .u64 y.1.2.1, .bool y.1.2.2.1, .slice to1 y.1.2.2.2.length tc1] rfl (by intro u hu; simp only [List.mem_cons, List.not_mem_nil, or_false] at hu; rcases hu with rfl | rfl | rfl | rfl <;> rfl) rfl (by simp [go_sem]) ((own_below HRO.out G2.out).alloc _) (by omega) (by omega) (by simp; omega) ?_; intro v3 w3 ho3 hg3 hk3; have HO3 := Lib.hid ho3; have HG3 := Lib.hid hg3; have HB2 : Hid (Below w.heap.size w (w2.alloc (.cells #[.slice fo1 y.1.1.length fc1, .int .u64 y.1.2.1, .bool y.1.2.2.1, .slice to1 y.1.2.2.2.length tc1] 32))) := Lib.hid (bel_alloc (bel_call hbel.out G2.out) _); have HBEL : Hid (Below w.heap.size w w3) := Lib.hid (bel_own HB2.out HG3.out ((own_below HRO.out G2.out).alloc _)); clear ho3 hg3 hk3)
        have HNEW : Hid (OwnEs w3 w.heap.size v3 (fromE key (P.take (k + 1)))) := Lib.hid (by
          rw [HTK.out, ← HRS.out]
          exact OwnEs.push (r := (y.1, .slice fo1 y.1.1.length fc1, .slice to1 y.1.2.2.2.length tc1)) (w := w2.alloc (.cells #[.slice fo1 y.1.1.length fc1, .int .u64 y.1.2.1, .bool y.1.2.2.1, .slice to1 y.1.2.2.2.length tc1] 32)) ((own_below HRO.out G2.out).alloc _) (fun r hr => ((HRG.out r hr).below G2.out).below (bel_alloc (Below.refl _ _) _)) ⟨(H1.out.mono (by omega)).below (bel_alloc (Below.refl _ _) _), (H2.out.mono (by omega)).below (bel_alloc (Below.refl _ _) _), HU.out⟩ HO3.out HG3.out)
        go_wp2_with fail
        refine ⟨⟨k + 1, by go_num, by omega, HNEW.out, HBEL.out⟩, ?_⟩
        simp [intOf]
        omega
      · have HTK : Hid (fromE key (P.take (k + 1)) = fromE key (P.take k)) := Lib.hid (by rw [take_snoc' hy.out, fromE_snoc, if_neg hj, List.append_nil])
        clear hy
        go_wp2_with fail
        refine ⟨⟨k + 1, by go_num, by omega, by rw [HTK.out]; exact hown.out, hbel.out⟩, ?_⟩
        simp [intOf]
        omega
    · have hke : k = P.length := by omega
      subst hke
      rw [List.take_length] at hown
      clear hkp
      go_wp2_with fail
      go_ret
      exact ⟨_, rfl, hown.out, hbel.out⟩
end Mt
end Go.Proofs.Ytgkgfghmpimaoaa
