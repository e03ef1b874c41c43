/- memtable: MemtableOrder (walk). -/
import Derived.Test.YtgkgfghmpimaoaaMt16
set_option linter.unusedVariables false
set_option linter.unusedSimpArgs false
namespace Go.Proofs.Ytgkgfghmpimaoaa
open Go.RowKit
namespace Mt
/-- what the first table has -/
def Has (P : Pl) (L : List En) : Prop := ∀ z, z ∈ P.map (·.1) ↔ z ∈ L ∧ mayB z = true
theorem has_put {hs : List Int} {P : Pl} {L : List En} {x : En} (h : Has P L) (hne : ∀ y ∈ L, ¬ Alike y x) : Has (putF hs P x) (L ++ [x]) := by
  intro z
  rw [putF_mem hs P x (fun y hy => hne y ((h y).1 hy).1), h z, List.mem_append, List.mem_singleton]
  constructor
  · rintro (⟨h1, h2⟩ | ⟨rfl, h2⟩)
    · exact ⟨.inl h1, h2⟩
    · exact ⟨.inr rfl, h2⟩
  · rintro ⟨h1 | rfl, h2⟩
    · exact .inl ⟨h1, h2⟩
    · exact .inr ⟨rfl, h2⟩
set_option maxRecDepth 100000 in
set_option maxHeartbeats 8000000 in
theorem order_any (hv0 hv1 lv : Value) (h0 h1 : List Int) (l : List En) (turn : Int) (w : World) (i0 : IsI w hv0 h0) (i1 : IsI w hv1 h1) (hl : IsEs w lv l) (b0 : h0.length ≤ 17592186044416) (b1 : h1.length ≤ 17592186044416) (ht : I64 turn) :
    Calls Try.prog 4 #[.agg #[hv0, hv1], lv, .int .i64 turn] w (Ret (.bool true) w) := by
  obtain ⟨ho, hc, rfl, -, -, -⟩ := i0.form
  obtain ⟨go, gc, rfl, -, -, -⟩ := i1.form
  obtain ⟨lo, lc, rfl, -, -, -⟩ := hl.form
  have hml := hl.max
  have HSH := Lib.hid (shown_any (w.alloc (.cells #[.slice ho h0.length hc, .slice go h1.length gc] 50)))
  have I0 := Lib.hid i0
  have I1 := Lib.hid i1
  have HLV := Lib.hid hl
  have HT := Lib.hid ht
  have B0 := Lib.hid b0
  have B1 := Lib.hid b1
  clear i0 i1 hl b0 b1 ht
  go_enter Try.func4, Try.ntmps4
  go_wp2_with fail
  refine HSH.out.mono ?_
  rintro e w1 ⟨rfl, hb1⟩
  have hw1 : Below w.heap.size w w1 := bel_call (bel_alloc (Below.refl _ w) _) hb1
  have x0 : w1.cell? ⟨w.heap.size, 0, none⟩ = some (.slice ho h0.length hc) := (hb1.cell (p := ⟨w.heap.size, 0, none⟩) (by simp)).trans (by go_simp)
  have x1 : w1.cell? ⟨w.heap.size, 1, none⟩ = some (.slice go h1.length gc) := (hb1.cell (p := ⟨w.heap.size, 1, none⟩) (by simp)).trans (by go_simp)
  have xl := World.block_lt_of_cell? w1 ⟨w.heap.size, 0, none⟩ x0
  have HW1 := Lib.hid hw1
  have HN0 := Lib.hid (tNew _ h0 w1 (I0.out.below inR_stays hw1) B0.out)
  clear hb1 hw1
  go_wp2_with fail
  refine HN0.out.mono ?_
  unfold NewQ
  rintro e w2 ⟨ta, rfl, ta2, tb2⟩
  have x1' := (tb2.cell (p := ⟨w.heap.size, 1, none⟩) xl).trans x1
  have xl' : w.heap.size < w2.heap.size := Nat.lt_of_lt_of_le xl tb2.size
  have TA := Lib.hid ta2
  have TB := Lib.hid tb2
  have HN1 := Lib.hid (tNew _ h1 w2 (I1.out.below inR_stays (bel_call HW1.out tb2)) B1.out)
  clear x0 x1 ta2 tb2 HN0
  go_wp2_with fail
  refine HN1.out.mono ?_
  unfold NewQ
  rintro e w3 ⟨tb, rfl, tc2, td2⟩
  have HOR : Hid (OrI w w3 ta tb h0 h1 [] [] (.slice none 0 0) []) := Lib.hid (or_new TA.out (fun k hk => Nat.le_trans HW1.out.size hk.1) (bel_call HW1.out TB.out) tc2 (fun k hk => hk.1) td2)
  have HB3 : Hid (Below w.heap.size w w3) := Lib.hid (bel_call (bel_call HW1.out TB.out) td2)
  clear x1' xl xl' tc2 td2 HN1 TA TB
  by_cases hl0 : l.length = 0
  · have q0 : ((l.length : Int) == 0) = true := by rw [beq_iff_eq]; omega
    clear hl0
    go_wp2_with fail
    go_ret
    exact ⟨rfl, HB3.out⟩
  · have q0 : ((l.length : Int) == 0) = false := beq_eq_false_iff_ne.2 (by omega)
    by_cases hl2 : 200 < l.length
    · have q1 : (200 : Int) < l.length := by omega
      clear hl0 hl2
      go_wp2_with fail
      go_ret
      exact ⟨rfl, HB3.out⟩
    · have q1 : ¬ (200 : Int) < l.length := by omega
      by_cases ht0 : turn < 0
      · clear hl0 hl2
        go_wp2_with fail
        go_ret
        exact ⟨rfl, HB3.out⟩
      · obtain ⟨k, hk, hkl⟩ : ∃ k : Nat, Int.tmod turn (l.length : Int) = (k : Int) ∧ k < l.length := by
          obtain ⟨t, rfl⟩ : ∃ t : Nat, turn = (t : Int) := ⟨turn.toNat, by omega⟩
          exact ⟨t % l.length, rfl, Nat.mod_lt _ (by omega)⟩
        have HL0 := Lib.hid hl0
        have HL2 := Lib.hid hl2
        clear hl0 hl2
        go_wp2_with fail
        go_loopw [11, 12] (fun mv i wr => ∃ n : Nat, ∃ Pa : Pl, n ≤ l.length ∧ i = .int .i64 n ∧ Pa.length ≤ n ∧ Hid (OrI w wr ta tb h0 h1 Pa [] mv (l.take n)) ∧ Hid (Has Pa (l.take n)) ∧ Hid ((l.take n).Pairwise fun a b => ¬ Alike a b)) (fun _ i _ => l.length - (intOf i).toNat)
        case atStart => exact ⟨0, [], Nat.zero_le _, rfl, by simp, HOR.out, fun z => by simp, List.Pairwise.nil⟩
        case round =>
          obtain ⟨n, Pa, hn, rfl, hpa, hor, hhas, hpw⟩ := hrel
          by_cases hnl : n < l.length
          · obtain ⟨b, o, x, kv, vv, hao, cbb, hx, c0', c1', c2', c3', hkv, hvv, hu⟩ := IsEs.at4 HLV.out hnl
            subst hao
            obtain ⟨ko, kc, rfl, -, -, -⟩ := hkv.out.form
            obtain ⟨vo, vc, rfl, -, -, -⟩ := hvv.out.form
            have hln : (l.take n).length = n := by rw [List.length_take]; omega
            obtain ⟨mo, mc, hmv, -, -, -⟩ := hor.out.isEs.form
            rw [hln] at hmv
            subst hmv
            have q2 : (n : Int) < l.length := by omega
            have hwn := IntWalk.i64_in ((n : Int) + 1) (by omega)
            obtain ⟨t0, hi0, hz0, hz1, hz2⟩ := info_parts infoEn
            have HI := Lib.hid hi0; have HZ0 := Lib.hid hz0; have HZ1 := Lib.hid hz1; have HZ2 := Lib.hid hz2
            clear hi0 hz0 hz1 hz2
            have hl2 := HL2.out
            go_wp2_with fail
            go_loopw [13] (fun j wr2 => ∃ m : Nat, m ≤ n ∧ j = .int .i64 m ∧ Hid (∀ y ∈ (l.take n).take m, ¬ Alike y x) ∧ Hid (OrI w wr2 ta tb h0 h1 Pa [] (.slice mo n mc) (l.take n))) (fun j _ => n - (intOf j).toNat)
            case atStart => exact ⟨0, Nat.zero_le _, rfl, fun y hy => by simp at hy, hor.out⟩
            case round =>
              obtain ⟨m, hm, rfl, hna, hor2⟩ := hrel
              have hbel := hor2.out.sa.bel
              have c0 := (hbel.cell (p := ⟨b, o + n * 4, none⟩) cbb).trans c0'
              have c1 := (hbel.cell (p := ⟨b, o + n * 4 + 1, none⟩) cbb).trans c1'
              have c2 := (hbel.cell (p := ⟨b, o + n * 4 + 2, none⟩) cbb).trans c2'
              have c3 := (hbel.cell (p := ⟨b, o + n * 4 + 3, none⟩) cbb).trans c3'
              have zb : b < wr.heap.size := Nat.lt_of_lt_of_le cbb hbel.size
              by_cases hmn : m < n
              · obtain ⟨b2, o2, y, kv2, vv2, hao2, dbb, hy, d0, d1, d2, d3, hkv2, hvv2, -⟩ := IsEs.at4 hor2.out.isEs (k := m) (by rw [hln]; exact hmn)
                subst hao2
                obtain ⟨ko2, kc2, rfl, -, -, -⟩ := hkv2.out.form
                have q3 : (m : Int) < n := by omega
                have hwm := IntWalk.i64_in ((m : Int) + 1) (by omega)
                have r1 := str_beq hkv2.out.rng hkv.out.rng
                have cx := fun nq => (hkv.out.below (below_drewN hbel nq)).conv (P := Try.prog) Try.underlying29 Try.underlying5 Try.underlying9
                have cy := fun nq => (hkv2.out.below (below_drewN (Below.refl _ wr) nq)).conv (P := Try.prog) Try.underlying29 Try.underlying5 Try.underlying9
                have HBL := Lib.hid hbel
                by_cases hal : Alike y x
                · have r2 : (y.2.1 == x.2.1) = true := by simp [hal.2]
                  rw [decide_eq_true hal.1] at r1
                  clear hal hbel c0' c1' c2' c3' hkv hvv hkv2 hvv2 hx hy
                  go_wp2_with fail
                  go_quiet (fail)
                  go_wp2_with fail
                  go_ret
                  exact ⟨rfl, by exact below_drewN HBL.out _⟩
                · have HNA : Hid (∀ z ∈ (l.take n).take (m + 1), ¬ Alike z x) := Lib.hid (by
                    rw [take_snoc hy.out]
                    intro z hz
                    rcases List.mem_append.1 hz with h | h
                    · exact hna.out z h
                    · rw [List.mem_singleton.1 h]; exact hal)
                  by_cases hs9 : y.2.1 = x.2.1
                  · have r2 : (y.2.1 == x.2.1) = true := by simp [hs9]
                    rw [decide_eq_false (fun h => hal ⟨h, hs9⟩)] at r1
                    clear hal hs9 hbel c0' c1' c2' c3' hkv hvv hkv2 hvv2 hx hy
                    go_wp2_with fail
                    go_quiet (fail)
                    go_wp2_with fail
                    refine ⟨⟨m + 1, by omega, by go_num, HNA.out, hor2.out.below (below_drewN (Below.refl _ wr) _)⟩, ?_⟩
                    simp [intOf]
                    omega
                  · have r2 : (y.2.1 == x.2.1) = false := by simp [hs9]
                    clear hal hs9 r1 hbel c0' c1' c2' c3' hkv hvv hkv2 hvv2 hx hy
                    go_wp2_with fail
                    go_quiet (fail)
                    go_wp2_with fail
                    refine ⟨⟨m + 1, by omega, by go_num, HNA.out, hor2.out.below (below_drewN (Below.refl _ wr) _)⟩, ?_⟩
                    simp [intOf]
                    omega
              · have hme : m = n := by omega
                subst hme
                have HNA : Hid (∀ y ∈ l.take m, ¬ Alike y x) := Lib.hid (by have := hna.out; rwa [List.take_of_length_le (by omega)] at this)
                obtain ⟨Sa, Sb, rs, hos⟩ := hor2.out
                have hrl : rs.length = m := by have := congrArg List.length hos.eq; rw [List.length_map, hln] at this; exact this
                have ho9 := hos.own
                rw [hrl] at ho9
                have HOS := Lib.hid hos
                have HRL := Lib.hid hrl
                have HO9 := Lib.hid ho9
                have hsz := hbel.size
                clear hos hrl ho9 hbel
                go_wp2_with (at_builtin; refine wpList_append_cells (w := wr) (base := w.heap.size) (size := 4) (n := m) (xs := rs.flatMap c4) (.tmp 89) (.tmp 94) _ rfl rfl t0 _ 64 Try.underlying39 HI.out HZ0.out HZ1.out HZ2.out rfl (by decide) [.slice ko x.1.length kc, .int .u64 x.2.1, .bool x.2.2.1, .slice vo x.2.2.2.length vc] rfl (by intro u hu; simp only [List.mem_cons, List.not_mem_nil, or_false] at hu; rcases hu with rfl | rfl | rfl | rfl <;> rfl) rfl rfl HO9.out (by omega) (by omega) hsz ?_; intro v5 w5 ho5 hg5 hk5; have HPS : Hid (OrI w w5 ta tb h0 h1 Pa [] v5 (l.take m ++ [x])) := Lib.hid (HOS.out.push hkv.out hvv.out hu (by rw [HRL.out]; exact ho5) hg5 (hk5.imp_right fun e => ⟨_, e, by omega⟩)); have hb5 := HPS.out.sa.bel; have e0 := (hb5.cell (p := ⟨b, o + m * 4, none⟩) cbb).trans c0'; have e1 := (hb5.cell (p := ⟨b, o + m * 4 + 1, none⟩) cbb).trans c1'; have e2 := (hb5.cell (p := ⟨b, o + m * 4 + 2, none⟩) cbb).trans c2'; have e3 := (hb5.cell (p := ⟨b, o + m * 4 + 3, none⟩) cbb).trans c3'; have zb5 := Nat.lt_of_lt_of_le cbb hb5.size; have HPU := Lib.hid (HPS.out.putA _ _ x (hkv.out.below hb5) (hvv.out.below hb5) hu (by omega)); clear ho5 hg5 hk5 c0 c1 c2 c3 c0' c1' c2' c3' hb5)
                refine HPU.out.mono ?_
                rintro e w6 ⟨c, rfl, hor6⟩
                rw [← take_snoc hx.out] at hor6
                have HOR6 := Lib.hid hor6
                have HHP : Hid (Has (putF h0 Pa x) (l.take (m + 1))) := Lib.hid (by rw [take_snoc hx.out]; exact has_put hhas.out HNA.out)
                have HPW : Hid ((l.take (m + 1)).Pairwise fun a b => ¬ Alike a b) := Lib.hid (by
                  rw [take_snoc hx.out, List.pairwise_append]
                  exact ⟨hpw.out, List.pairwise_singleton _ _, fun a ha b hb => by rw [List.mem_singleton.1 hb]; exact HNA.out a ha⟩)
                have HPL := Lib.hid (putF_len h0 Pa x)
                clear hor6 e0 e1 e2 e3 HPU
                go_wp2_with fail
                go_roundw
                case rel => exact ⟨m + 1, putF h0 Pa x, by omega, by go_num, by have := HPL.out; omega, HOR6.out, HHP.out, HPW.out⟩
                case measure => simp [intOf]; omega
          · have hne : n = l.length := by omega
            subst hne
            have hor' := hor.out
            rw [List.take_length] at hor'
            have hha' := hhas.out
            rw [List.take_length] at hha'
            have hpw' := hpw.out
            rw [List.take_length] at hpw'
            have HO9 := Lib.hid hor'
            have HH9 := Lib.hid hha'
            have HP9 := Lib.hid hpw'
            have hwn := IntWalk.i64_in ((l.length : Int) - 1) (by omega)
            clear hor hhas hpw hor' hha' hpw' HOR
            go_wp2_with fail
            go_loopw [14] (fun i wr2 => ∃ m : Nat, ∃ Pb : Pl, m ≤ l.length ∧ i = .int .i64 ((m : Int) - 1) ∧ Pb.length + m ≤ l.length ∧ Hid (∃ mv, OrI w wr2 ta tb h0 h1 Pa Pb mv l) ∧ Hid (∀ z, z ∈ Pb.map (·.1) ↔ (∃ j, m ≤ j ∧ j < l.length ∧ l[(j + k) % l.length]? = some z) ∧ mayB z = true)) (fun i _ => (intOf i + 1).toNat)
            case atStart => exact ⟨l.length, [], Nat.le_refl _, by go_num, by simp, ⟨_, HO9.out⟩, fun z => by simp; omega⟩
            case round =>
              obtain ⟨m, Pb, hm, rfl, hpb, hor, hmem⟩ := hrel
              obtain ⟨mv, hor⟩ := hor.out
              have HOR := Lib.hid hor
              have hl0 := HL0.out
              have hl2 := HL2.out
              rcases m with _ | q
              · have e0 : ((0 : Nat) : Int) - 1 = -1 := by omega
                rw [e0]
                have HAB : Hid (Pa.map (·.1) = Pb.map (·.1)) := Lib.hid (asc_ext _ _ (by obtain ⟨_, g, _⟩ := hor.sa; exact g.asc) (by obtain ⟨_, g, _⟩ := hor.sb; exact g.asc) (fun z => by
                  rw [HH9.out z, hmem.out z]
                  constructor
                  · rintro ⟨h1, h2⟩
                    refine ⟨?_, h2⟩
                    obtain ⟨t, ht⟩ := List.mem_iff_getElem?.1 h1
                    have htl := (List.getElem?_eq_some_iff.1 ht).1
                    by_cases hkt : k ≤ t
                    · exact ⟨t - k, by omega, by omega, by rw [show t - k + k = t by omega, Nat.mod_eq_of_lt htl]; exact ht⟩
                    · exact ⟨t + l.length - k, by omega, by omega, by rw [show t + l.length - k + k = t + l.length by omega, Nat.add_mod_right, Nat.mod_eq_of_lt htl]; exact ht⟩
                  · rintro ⟨⟨j, -, -, h1⟩, h2⟩
                    exact ⟨List.mem_of_getElem? h1, h2⟩))
                have HSA := Lib.hid (sScan hor.sa (by omega))
                clear hor
                go_wp2_with fail
                refine HSA.out.mono ?_
                unfold LevelP
                rintro e w4 ⟨v4, rfl, ho4, hb4⟩
                have HO4 := Lib.hid ho4
                have HR4 := Lib.hid (HOR.out.below hb4)
                have HSB := Lib.hid (sScan (HOR.out.below hb4).sb (by omega))
                obtain ⟨ao4, cap4, rfl, -, -, -⟩ := ho4.isEs.form
                clear ho4 hb4 HSA
                go_wp2_with fail
                refine HSB.out.mono ?_
                unfold LevelP
                rintro e w5 ⟨v5, rfl, ho5, hb5⟩
                have HR5 := Lib.hid (HR4.out.below hb5)
                have HSM := Lib.hid (same_any _ _ _ _ w5 (HO4.out.below hb5).isEs ho5.isEs)
                rw [decide_eq_true HAB.out] at HSM
                obtain ⟨ao5, cap5, rfl, -, -, -⟩ := ho5.isEs.form
                simp only [List.length_map] at HSM
                clear ho5 hb5 HSB
                go_wp2_with fail
                refine HSM.out.mono ?_
                rintro e w6 ⟨rfl, hb6⟩
                have HR6 := Lib.hid (HR5.out.below hb6)
                have HLA := Lib.hid (sLen (HR5.out.below hb6).sa)
                clear hb6
                go_wp2_with fail
                refine HLA.out.mono ?_
                rintro e w7 ⟨rfl, hb7⟩
                have HR7 := Lib.hid (HR6.out.below hb7)
                have HLB := Lib.hid (sLen (HR6.out.below hb7).sb)
                rw [show Pb.length = Pa.length by have := congrArg List.length HAB.out; simpa using this.symm] at HLB
                clear hb7
                go_wp2_with fail
                refine HLB.out.mono ?_
                rintro e w8 ⟨rfl, hb8⟩
                have HR8 := Lib.hid (HR7.out.below hb8)
                have HBA := Lib.hid (sBytes (HR7.out.below hb8).sa)
                clear hb8
                go_wp2_with fail
                refine HBA.out.mono ?_
                rintro e w9 ⟨rfl, hb9⟩
                have HR9 := Lib.hid (HR8.out.below hb9)
                have HBB := Lib.hid (sBytes (HR8.out.below hb9).sb)
                rw [← HAB.out] at HBB
                clear hb9
                go_wp2_with fail
                refine HBB.out.mono ?_
                rintro e w10 ⟨rfl, hb10⟩
                have HR10 := Lib.hid (HR9.out.below hb10)
                clear hb10
                go_wp2_with fail
                go_ret
                exact ⟨rfl, HR10.out.sa.bel⟩
              · have e0 : ((q + 1 : Nat) : Int) - 1 = (q : Int) := by omega
                rw [e0]
                have hlp : 0 < l.length := by omega
                have hr := Nat.mod_lt (q + k) hlp
                have et : Int.tmod ((q : Int) + (k : Int)) (l.length : Int) = (((q + k) % l.length : Nat) : Int) := by rw [← Int.natCast_add]; rfl
                have hw5 := IntWalk.i64_in ((q : Int) + k) (by omega)
                have hw6 := IntWalk.i64_in ((q : Int) - 1) (by omega)
                obtain ⟨b, o, x, kv, vv, hao, cbb, hx, c0', c1', c2', c3', hkv, hvv, hu⟩ := IsEs.at4 HLV.out hr
                subst hao
                have HNE : Hid (∀ y ∈ Pb.map (·.1), ¬ Alike y x) := Lib.hid (fun y hy hal => by
                  obtain ⟨⟨j, j1, j2, j3⟩, -⟩ := (hmem.out y).1 hy
                  have hx9 := hx.out
                  obtain ⟨l1, e1⟩ := List.getElem?_eq_some_iff.1 j3
                  obtain ⟨l2, e2⟩ := List.getElem?_eq_some_iff.1 hx9
                  have hne : (j + k) % l.length ≠ (q + k) % l.length := fun e => by
                    have h1 := Nat.sub_mod_eq_zero_of_mod_eq e
                    rw [show j + k - (q + k) = j - q by omega, Nat.mod_eq_of_lt (by omega)] at h1
                    omega
                  have hp := List.pairwise_iff_getElem.1 HP9.out
                  rcases Nat.lt_or_gt_of_ne hne with h | h
                  · exact hp _ _ l1 l2 h (by rw [e1, e2]; exact hal)
                  · exact hp _ _ l2 l1 h (by rw [e1, e2]; exact ⟨hal.1.symm, hal.2.symm⟩))
                have HXM : Hid (∀ z, z ∈ (putF h1 Pb x).map (·.1) ↔ (∃ j, q ≤ j ∧ j < l.length ∧ l[(j + k) % l.length]? = some z) ∧ mayB z = true) := Lib.hid (fun z => by
                  rw [putF_mem h1 Pb x HNE.out z, hmem.out z]
                  constructor
                  · rintro (⟨⟨j, j1, j2, j3⟩, h2⟩ | ⟨rfl, h2⟩)
                    · exact ⟨⟨j, by omega, j2, j3⟩, h2⟩
                    · exact ⟨⟨q, Nat.le_refl _, by omega, hx.out⟩, h2⟩
                  · rintro ⟨⟨j, j1, j2, j3⟩, h2⟩
                    rcases Nat.eq_or_lt_of_le j1 with rfl | j1
                    · have := hx.out
                      rw [j3] at this
                      cases this
                      exact .inr ⟨rfl, h2⟩
                    · exact .inl ⟨⟨j, by omega, j2, j3⟩, h2⟩)
                generalize (q + k) % l.length = r at *
                have hbel := hor.sa.bel
                have c0 := (hbel.cell (p := ⟨b, o + r * 4, none⟩) cbb).trans c0'
                have c1 := (hbel.cell (p := ⟨b, o + r * 4 + 1, none⟩) cbb).trans c1'
                have c2 := (hbel.cell (p := ⟨b, o + r * 4 + 2, none⟩) cbb).trans c2'
                have c3 := (hbel.cell (p := ⟨b, o + r * 4 + 3, none⟩) cbb).trans c3'
                have zb : b < wr.heap.size := Nat.lt_of_lt_of_le cbb hbel.size
                obtain ⟨ko, kc, rfl, -, -, -⟩ := hkv.out.form
                obtain ⟨vo, vc, rfl, -, -, -⟩ := hvv.out.form
                have HPU := Lib.hid (hor.putB _ _ x (hkv.out.below hbel) (hvv.out.below hbel) hu (by omega))
                have HPL := Lib.hid (putF_len h1 Pb x)
                have q3 : (r : Int) < l.length := by omega
                have q4 : (0 : Int) ≤ r := by omega
                have q5 : (0 : Int) ≤ q := by omega
                clear c0' c1' c2' c3' hkv hvv hbel hor hx
                go_wp2_with fail
                refine HPU.out.mono ?_
                rintro e w6 ⟨c, rfl, hor6⟩
                have HOR6 := Lib.hid hor6
                clear hor6 c0 c1 c2 c3
                go_wp2_with fail
                go_roundw
                case rel => exact ⟨q, putF h1 Pb x, by omega, by go_num, by have := HPL.out; omega, ⟨_, HOR6.out⟩, HXM.out⟩
                case measure => simp [intOf] <;> omega
end Mt
end Go.Proofs.Ytgkgfghmpimaoaa
