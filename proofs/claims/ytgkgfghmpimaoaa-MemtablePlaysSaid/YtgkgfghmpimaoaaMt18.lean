/- memtable: the reference's table in memory; Len, place. -/
import Derived.Test.YtgkgfghmpimaoaaMtQ
set_option linter.unusedVariables false
set_option linter.unusedSimpArgs false
namespace Go.Proofs.Ytgkgfghmpimaoaa
open Go.RowKit
namespace Mt
def ndR (w : World) (cs : List Value) (p : En × Nat) : Prop := ∃ kv vv, cs = [kv, .int .u64 p.1.2.1, .bool p.1.2.2.1, vv, .int .i64 p.2] ∧ IsB w kv p.1.1 ∧ IsB w vv p.1.2.2.2 ∧ U64 p.1.2.1
theorem ndR_stays : Stays ndR := fun w w' cs x hb ⟨kv, vv, h1, h2, h3, h4⟩ => ⟨kv, vv, h1, h2.below hb, h3.below hb, h4⟩
abbrev IsNs (w : World) (v : Value) (P : Pl) : Prop := IsL 5 ndR w v P
theorem IsNs.at5 {w : World} {ao : Option Addr} {n cap k : Nat} {P : Pl} (h : IsNs w (.slice ao n cap) P) (hk : k < P.length) :
    ∃ b o p kv vv, ao = some ⟨b, o, none⟩ ∧ b < w.heap.size ∧ Hid (P[k]? = some p) ∧ w.cell? ⟨b, o + k * 5, none⟩ = some kv ∧ w.cell? ⟨b, o + k * 5 + 1, none⟩ = some (.int .u64 p.1.2.1) ∧ w.cell? ⟨b, o + k * 5 + 2, none⟩ = some (.bool p.1.2.2.1) ∧ w.cell? ⟨b, o + k * 5 + 3, none⟩ = some vv ∧ w.cell? ⟨b, o + k * 5 + 4, none⟩ = some (.int .i64 p.2) ∧ Hid (IsB w kv p.1.1) ∧ Hid (IsB w vv p.1.2.2.2) ∧ U64 p.1.2.1 := by
  obtain ⟨b, o, x, cs, h1, h2, h3, h4, h5, kv, vv, rfl, h6, h7, h8⟩ := h.at_ hk
  exact ⟨b, o, x, kv, vv, h1, h2, h3, h5.out 0 _ rfl, h5.out 1 _ rfl, h5.out 2 _ rfl, h5.out 3 _ rfl, h5.out 4 _ rfl, h6, h7, h8⟩
/-- the reference's table, as it is read -/
structure RefR (w : World) (rb : Nat) (hs : List Int) (P : Pl) (hv lv : Value) : Prop where
  c0 : w.cell? ⟨rb, 0, none⟩ = some hv
  c1 : w.cell? ⟨rb, 1, none⟩ = some lv
  ih : IsI w hv hs
  il : IsNs w lv P
  asc : Asc (P.map (·.1))
  each : ∀ p ∈ P, mayB p.1 = true ∧ 1 ≤ p.2 ∧ p.2 ≤ 12
  len : P.length ≤ 1000
theorem RefR.lt {w : World} {rb : Nat} {hs : List Int} {P : Pl} {hv lv : Value} (h : RefR w rb hs P hv lv) : rb < w.heap.size := World.block_lt_of_cell? w ⟨rb, 1, none⟩ h.c1
theorem RefR.below {w w' : World} {rb : Nat} {hs : List Int} {P : Pl} {hv lv : Value} (h : RefR w rb hs P hv lv) (hb : Below w.heap.size w w') : RefR w' rb hs P hv lv :=
  ⟨(hb.cell (p := ⟨rb, 0, none⟩) h.lt).trans h.c0, (hb.cell (p := ⟨rb, 1, none⟩) h.lt).trans h.c1, h.ih.below inR_stays hb, h.il.below ndR_stays hb, h.asc, h.each, h.len⟩
theorem rlen_any {w : World} {rb : Nat} {hs : List Int} {P : Pl} {hv lv : Value} (h : RefR w rb hs P hv lv) : Calls Try.prog 24 #[.pointer (some ⟨rb, 0, none⟩)] w (Ret (.int .i64 P.length) w) := by
  obtain ⟨lo, lc, rfl, -, -, -⟩ := h.il.form
  have c1 := h.c1
  have zr := h.lt
  clear h
  go_enter Try.func24, Try.ntmps24
  go_wp2_with fail
  go_ret
  exact ⟨rfl, Below.refl _ _⟩
theorem twice_at {l : List En} {pos : Nat} {x y : En} (h : l[pos]? = some y) : twiceB l pos x = (cmpE y x == 0) := by
  unfold twiceB
  rw [h]
  rw [Bool.eq_iff_iff]
  simp only [Bool.and_eq_true, beq_iff_eq, decide_eq_true_eq, cmpE_zero]
  exact And.comm
def RPlP (pos : Nat) (is : Bool) (w : World) (e : Ending) (w' : World) : Prop := e = .returned (.tuple #[.int .i64 pos, .bool is]) ∧ Below w.heap.size w w'
set_option maxRecDepth 100000 in
set_option maxHeartbeats 4000000 in
theorem rplace_any {w : World} {rb : Nat} {hs : List Int} {P : Pl} {hv lv : Value} (kv vv : Value) (x : En) (h : RefR w rb hs P hv lv) (hk : IsB w kv x.1) (hvv : IsB w vv x.2.2.2) :
    Calls Try.prog 31 #[.pointer (some ⟨rb, 0, none⟩), .agg #[kv, .int .u64 x.2.1, .bool x.2.2.1, vv]] w (RPlP (posF (P.map (·.1)) x.1 x.2.1) (twiceB (P.map (·.1)) (posF (P.map (·.1)) x.1 x.2.1) x) w) := by
  obtain ⟨lo, lc, rfl, -, -, -⟩ := h.il.form
  obtain ⟨ko, kc, rfl, -, -, -⟩ := hk.form
  obtain ⟨vo, vc, rfl, -, -, -⟩ := hvv.form
  have HP := Lib.hid (pos_of x.1 x.2.1 _ h.asc)
  revert HP
  generalize posF (P.map (·.1)) x.1 x.2.1 = pos
  intro HP
  have hpl := HP.out.1
  rw [List.length_map] at hpl
  have H := Lib.hid h
  have HK := Lib.hid hk
  have HV := Lib.hid hvv
  have hlen := h.len
  have c1 := h.c1
  have zr := h.lt
  clear h hk hvv
  go_enter Try.func31, Try.ntmps31
  go_wp2_with fail
  go_loopw [6, 7] (fun a b wr => ∃ p q : Nat, a = .int .i64 p ∧ b = .int .i64 q ∧ p ≤ pos ∧ pos ≤ q ∧ q ≤ P.length ∧ Hid (Below (w.alloc (.cells #[.slice ko x.1.length kc, .int .u64 x.2.1, .bool x.2.2.1, .slice vo x.2.2.2.length vc] 32)).heap.size (w.alloc (.cells #[.slice ko x.1.length kc, .int .u64 x.2.1, .bool x.2.2.1, .slice vo x.2.2.2.length vc] 32)) wr)) (fun a b _ => (intOf b - intOf a).toNat)
  case atStart => exact ⟨0, P.length, rfl, rfl, Nat.zero_le _, hpl, Nat.le_refl _, Below.refl _ _⟩
  case round =>
    obtain ⟨p, q, rfl, rfl, hp, hq, hql, hb⟩ := hrel
    have HB : Hid (Below w.heap.size w wr) := Lib.hid (bel_call (bel_alloc (Below.refl _ w) _) hb.out)
    have r1 := (H.out.below HB.out).c1
    have zr2 := (H.out.below HB.out).lt
    have ze : w.heap.size < wr.heap.size := Nat.lt_of_lt_of_le (by simp) hb.out.size
    have e0 : wr.cell? ⟨w.heap.size, 0, none⟩ = some (.slice ko x.1.length kc) := (hb.out.cell (p := ⟨w.heap.size, 0, none⟩) (by simp)).trans (by go_simp)
    have e1 : wr.cell? ⟨w.heap.size, 1, none⟩ = some (.int .u64 x.2.1) := (hb.out.cell (p := ⟨w.heap.size, 1, none⟩) (by simp)).trans (by go_simp)
    have e2 : wr.cell? ⟨w.heap.size, 2, none⟩ = some (.bool x.2.2.1) := (hb.out.cell (p := ⟨w.heap.size, 2, none⟩) (by simp)).trans (by go_simp)
    have e3 : wr.cell? ⟨w.heap.size, 3, none⟩ = some (.slice vo x.2.2.2.length vc) := (hb.out.cell (p := ⟨w.heap.size, 3, none⟩) (by simp)).trans (by go_simp)
    clear c1 zr
    have zr := zr2
    clear zr2
    by_cases hpq : p < q
    · have q0 : (p : Int) < q := by omega
      have q1 := IntWalk.i64_in ((p : Int) + q) (by omega)
      have q2 : Int.tdiv ((p : Int) + q) 2 = (((p + q) / 2 : Nat) : Int) := by rw [← Int.natCast_add]; rfl
      obtain ⟨m, hm⟩ : ∃ m, m = (p + q) / 2 := ⟨_, rfl⟩
      rw [← hm] at q2
      have q3 : (m : Int) < P.length := by omega
      have q4 : (0 : Int) ≤ m := by omega
      have q5 := IntWalk.i64_in ((m : Int) + 1) (by omega)
      have hml : m < P.length := by omega
      obtain ⟨b, o, y, kv2, vv2, hao, zb, hy, n0, n1, n2, n3, n4, hk2, hv2, hu2⟩ := IsNs.at5 (H.out.below HB.out).il hml
      obtain rfl := hao
      obtain ⟨ko2, kc2, rfl, -, -, -⟩ := hk2.out.form
      obtain ⟨vo2, vc2, rfl, -, -, -⟩ := hv2.out.form
      have HQ := Lib.hid (cmpE_any _ _ _ _ y.1 x wr.drew hk2.out.drew hv2.out.drew (HK.out.below HB.out).drew (HV.out.below HB.out).drew)
      have hp9 := HP.out.2 m y.1 (by rw [List.getElem?_map, hy.out]; rfl)
      rw [ahead_iff] at hp9
      by_cases hmp : m < pos
      · have q6 : cmpE y.1 x < 0 := by rw [decide_eq_true hmp] at hp9; exact of_decide_eq_true hp9
        have HM := Lib.hid hm
        clear hk2 hv2 hu2 n4 hy hp9 hml hm
        go_wp2_with fail
        go_region_held3 (fun w' => w'.cell? ⟨rb, 1, none⟩ = some (.slice (some ⟨b, o, none⟩) P.length lc) ∧ w'.cell? ⟨b, o + m * 5, none⟩ = some (.slice ko2 y.1.1.length kc2) ∧ w'.cell? ⟨b, o + m * 5 + 1, none⟩ = some (.int .u64 y.1.2.1) ∧ w'.cell? ⟨b, o + m * 5 + 2, none⟩ = some (.bool y.1.2.2.1) ∧ w'.cell? ⟨b, o + m * 5 + 3, none⟩ = some (.slice vo2 y.1.2.2.2.length vc2) ∧ w'.cell? ⟨w.heap.size, 0, none⟩ = some (.slice ko x.1.length kc) ∧ w'.cell? ⟨w.heap.size, 1, none⟩ = some (.int .u64 x.2.1) ∧ w'.cell? ⟨w.heap.size, 2, none⟩ = some (.bool x.2.2.1) ∧ w'.cell? ⟨w.heap.size, 3, none⟩ = some (.slice vo x.2.2.2.length vc)) (first | exact ⟨by assumption, by assumption, by assumption, by assumption, by assumption, by assumption, by assumption, by assumption, by assumption⟩ | go_keep) (first | (go_at_call 38; refine HQ.out.mono ?_; rintro e w8 ⟨rfl, hb⟩; have hb8 := bel_of_drew hb; have HB8 := Lib.hid hb8; have R1 : w8.cell? ⟨rb, 1, none⟩ = some (.slice (some ⟨b, o, none⟩) P.length lc) := (hb8.cell (p := ⟨rb, 1, none⟩) zr).trans r1; have N0 : w8.cell? ⟨b, o + m * 5, none⟩ = some (.slice ko2 y.1.1.length kc2) := (hb8.cell (p := ⟨b, o + m * 5, none⟩) zb).trans n0; have N1 : w8.cell? ⟨b, o + m * 5 + 1, none⟩ = some (.int .u64 y.1.2.1) := (hb8.cell (p := ⟨b, o + m * 5 + 1, none⟩) zb).trans n1; have N2 : w8.cell? ⟨b, o + m * 5 + 2, none⟩ = some (.bool y.1.2.2.1) := (hb8.cell (p := ⟨b, o + m * 5 + 2, none⟩) zb).trans n2; have N3 : w8.cell? ⟨b, o + m * 5 + 3, none⟩ = some (.slice vo2 y.1.2.2.2.length vc2) := (hb8.cell (p := ⟨b, o + m * 5 + 3, none⟩) zb).trans n3; have E0 : w8.cell? ⟨w.heap.size, 0, none⟩ = some (.slice ko x.1.length kc) := (hb8.cell (p := ⟨w.heap.size, 0, none⟩) ze).trans e0; have E1 : w8.cell? ⟨w.heap.size, 1, none⟩ = some (.int .u64 x.2.1) := (hb8.cell (p := ⟨w.heap.size, 1, none⟩) ze).trans e1; have E2 : w8.cell? ⟨w.heap.size, 2, none⟩ = some (.bool x.2.2.1) := (hb8.cell (p := ⟨w.heap.size, 2, none⟩) ze).trans e2; have E3 : w8.cell? ⟨w.heap.size, 3, none⟩ = some (.slice vo x.2.2.2.length vc) := (hb8.cell (p := ⟨w.heap.size, 3, none⟩) ze).trans e3; clear hb hb8))
        go_wp2_with fail
        refine ⟨⟨m + 1, q, by go_num, rfl, by omega, hq, hql, bel_call hb.out HB8.out⟩, ?_⟩
        have := HM.out
        simp [intOf]
        omega
      · have q6 : ¬ cmpE y.1 x < 0 := by rw [decide_eq_false hmp] at hp9; exact of_decide_eq_false hp9
        have HM := Lib.hid hm
        clear hk2 hv2 hu2 n4 hy hp9 hml hm
        go_wp2_with fail
        go_region_held3 (fun w' => w'.cell? ⟨rb, 1, none⟩ = some (.slice (some ⟨b, o, none⟩) P.length lc) ∧ w'.cell? ⟨b, o + m * 5, none⟩ = some (.slice ko2 y.1.1.length kc2) ∧ w'.cell? ⟨b, o + m * 5 + 1, none⟩ = some (.int .u64 y.1.2.1) ∧ w'.cell? ⟨b, o + m * 5 + 2, none⟩ = some (.bool y.1.2.2.1) ∧ w'.cell? ⟨b, o + m * 5 + 3, none⟩ = some (.slice vo2 y.1.2.2.2.length vc2) ∧ w'.cell? ⟨w.heap.size, 0, none⟩ = some (.slice ko x.1.length kc) ∧ w'.cell? ⟨w.heap.size, 1, none⟩ = some (.int .u64 x.2.1) ∧ w'.cell? ⟨w.heap.size, 2, none⟩ = some (.bool x.2.2.1) ∧ w'.cell? ⟨w.heap.size, 3, none⟩ = some (.slice vo x.2.2.2.length vc)) (first | exact ⟨by assumption, by assumption, by assumption, by assumption, by assumption, by assumption, by assumption, by assumption, by assumption⟩ | go_keep) (first | (go_at_call 38; refine HQ.out.mono ?_; rintro e w8 ⟨rfl, hb⟩; have hb8 := bel_of_drew hb; have HB8 := Lib.hid hb8; have R1 : w8.cell? ⟨rb, 1, none⟩ = some (.slice (some ⟨b, o, none⟩) P.length lc) := (hb8.cell (p := ⟨rb, 1, none⟩) zr).trans r1; have N0 : w8.cell? ⟨b, o + m * 5, none⟩ = some (.slice ko2 y.1.1.length kc2) := (hb8.cell (p := ⟨b, o + m * 5, none⟩) zb).trans n0; have N1 : w8.cell? ⟨b, o + m * 5 + 1, none⟩ = some (.int .u64 y.1.2.1) := (hb8.cell (p := ⟨b, o + m * 5 + 1, none⟩) zb).trans n1; have N2 : w8.cell? ⟨b, o + m * 5 + 2, none⟩ = some (.bool y.1.2.2.1) := (hb8.cell (p := ⟨b, o + m * 5 + 2, none⟩) zb).trans n2; have N3 : w8.cell? ⟨b, o + m * 5 + 3, none⟩ = some (.slice vo2 y.1.2.2.2.length vc2) := (hb8.cell (p := ⟨b, o + m * 5 + 3, none⟩) zb).trans n3; have E0 : w8.cell? ⟨w.heap.size, 0, none⟩ = some (.slice ko x.1.length kc) := (hb8.cell (p := ⟨w.heap.size, 0, none⟩) ze).trans e0; have E1 : w8.cell? ⟨w.heap.size, 1, none⟩ = some (.int .u64 x.2.1) := (hb8.cell (p := ⟨w.heap.size, 1, none⟩) ze).trans e1; have E2 : w8.cell? ⟨w.heap.size, 2, none⟩ = some (.bool x.2.2.1) := (hb8.cell (p := ⟨w.heap.size, 2, none⟩) ze).trans e2; have E3 : w8.cell? ⟨w.heap.size, 3, none⟩ = some (.slice vo x.2.2.2.length vc) := (hb8.cell (p := ⟨w.heap.size, 3, none⟩) ze).trans e3; clear hb hb8))
        go_wp2_with fail
        refine ⟨⟨p, m, rfl, rfl, hp, by omega, by have := HM.out; omega, bel_call hb.out HB8.out⟩, ?_⟩
        have := HM.out
        simp [intOf]
        omega
    · have hpe : p = pos := by omega
      subst hpe
      have q0 : ¬ (p : Int) < q := by omega
      clear hpq
      by_cases hpe2 : p = P.length
      · have q1 : ((p : Int) == (P.length : Int)) = true := by rw [beq_iff_eq]; omega
        have HT : Hid (twiceB (P.map (·.1)) p x = false) := Lib.hid (by unfold twiceB; rw [List.getElem?_eq_none (by rw [List.length_map]; omega)])
        clear hpe2
        go_wp2_with fail
        rw [HT.out]
        refine bodyPost_ret (v := .tuple #[.int .i64 p, .bool false]) (by first | (simp [results, Try.results31, go_sem]; done) | (simp [results, Try.results31, go_sem]; go_simp)) rfl ⟨rfl, ?_⟩
        exact HB.out
      · have q1 : ((p : Int) == (P.length : Int)) = false := beq_eq_false_iff_ne.2 (by omega)
        have hml : p < P.length := by omega
        have q3 : (p : Int) < P.length := by omega
        have q4 : (0 : Int) ≤ p := by omega
        obtain ⟨b, o, y, kv2, vv2, hao, zb, hy, n0, n1, n2, n3, n4, hk2, hv2, hu2⟩ := IsNs.at5 (H.out.below HB.out).il hml
        obtain rfl := hao
        obtain ⟨ko2, kc2, rfl, -, -, -⟩ := hk2.out.form
        obtain ⟨vo2, vc2, rfl, -, -, -⟩ := hv2.out.form
        have HQ := Lib.hid (cmpE_any _ _ _ _ y.1 x wr.drew hk2.out.drew hv2.out.drew (HK.out.below HB.out).drew (HV.out.below HB.out).drew)
        have HT := Lib.hid (twice_at (l := P.map (·.1)) (pos := p) (x := x) (y := y.1) (by rw [List.getElem?_map, hy.out]; rfl))
        clear hk2 hv2 hu2 n4 hy hml hpe2
        go_wp2_with fail
        go_region_held3 (fun w' => w'.cell? ⟨rb, 1, none⟩ = some (.slice (some ⟨b, o, none⟩) P.length lc) ∧ w'.cell? ⟨b, o + p * 5, none⟩ = some (.slice ko2 y.1.1.length kc2) ∧ w'.cell? ⟨b, o + p * 5 + 1, none⟩ = some (.int .u64 y.1.2.1) ∧ w'.cell? ⟨b, o + p * 5 + 2, none⟩ = some (.bool y.1.2.2.1) ∧ w'.cell? ⟨b, o + p * 5 + 3, none⟩ = some (.slice vo2 y.1.2.2.2.length vc2) ∧ w'.cell? ⟨w.heap.size, 0, none⟩ = some (.slice ko x.1.length kc) ∧ w'.cell? ⟨w.heap.size, 1, none⟩ = some (.int .u64 x.2.1) ∧ w'.cell? ⟨w.heap.size, 2, none⟩ = some (.bool x.2.2.1) ∧ w'.cell? ⟨w.heap.size, 3, none⟩ = some (.slice vo x.2.2.2.length vc)) (first | exact ⟨by assumption, by assumption, by assumption, by assumption, by assumption, by assumption, by assumption, by assumption, by assumption⟩ | go_keep) (first | (go_at_call 38; refine HQ.out.mono ?_; rintro e w8 ⟨rfl, hb⟩; have hb8 := bel_of_drew hb; have HB8 := Lib.hid hb8; have R1 : w8.cell? ⟨rb, 1, none⟩ = some (.slice (some ⟨b, o, none⟩) P.length lc) := (hb8.cell (p := ⟨rb, 1, none⟩) zr).trans r1; have N0 : w8.cell? ⟨b, o + p * 5, none⟩ = some (.slice ko2 y.1.1.length kc2) := (hb8.cell (p := ⟨b, o + p * 5, none⟩) zb).trans n0; have N1 : w8.cell? ⟨b, o + p * 5 + 1, none⟩ = some (.int .u64 y.1.2.1) := (hb8.cell (p := ⟨b, o + p * 5 + 1, none⟩) zb).trans n1; have N2 : w8.cell? ⟨b, o + p * 5 + 2, none⟩ = some (.bool y.1.2.2.1) := (hb8.cell (p := ⟨b, o + p * 5 + 2, none⟩) zb).trans n2; have N3 : w8.cell? ⟨b, o + p * 5 + 3, none⟩ = some (.slice vo2 y.1.2.2.2.length vc2) := (hb8.cell (p := ⟨b, o + p * 5 + 3, none⟩) zb).trans n3; have E0 : w8.cell? ⟨w.heap.size, 0, none⟩ = some (.slice ko x.1.length kc) := (hb8.cell (p := ⟨w.heap.size, 0, none⟩) ze).trans e0; have E1 : w8.cell? ⟨w.heap.size, 1, none⟩ = some (.int .u64 x.2.1) := (hb8.cell (p := ⟨w.heap.size, 1, none⟩) ze).trans e1; have E2 : w8.cell? ⟨w.heap.size, 2, none⟩ = some (.bool x.2.2.1) := (hb8.cell (p := ⟨w.heap.size, 2, none⟩) ze).trans e2; have E3 : w8.cell? ⟨w.heap.size, 3, none⟩ = some (.slice vo x.2.2.2.length vc) := (hb8.cell (p := ⟨w.heap.size, 3, none⟩) ze).trans e3; clear hb hb8))
        go_wp2_with fail
        rw [HT.out]
        refine bodyPost_ret (v := .tuple #[.int .i64 p, .bool (cmpE y.1 x == 0)]) (by first | (simp [results, Try.results31, go_sem]; done) | (simp [results, Try.results31, go_sem]; go_simp)) rfl ⟨rfl, ?_⟩
        exact bel_call HB.out HB8.out
end Mt
end Go.Proofs.Ytgkgfghmpimaoaa
