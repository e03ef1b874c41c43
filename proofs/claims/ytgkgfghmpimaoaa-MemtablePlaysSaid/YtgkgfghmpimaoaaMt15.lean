/- memtable: MemtableLevels (walk). -/
import Derived.Test.YtgkgfghmpimaoaaMt14
set_option linter.unusedVariables false
set_option linter.unusedSimpArgs false
namespace Go.Proofs.Ytgkgfghmpimaoaa
open Go.RowKit
namespace Mt
theorem putF_len (hs : List Int) (P : Pl) (x : En) : (putF hs P x).length ≤ P.length + 1 := by
  unfold putF putN
  split
  · simp only [List.length_append, List.length_take, List.length_cons, List.length_drop]; omega
  · omega
theorem posF_nil {l : List En} (h : ∀ x ∈ l, mayB x = true) (seq : Int) : posF l [] seq = 0 := by
  unfold posF
  cases l with
  | nil => rfl
  | cons y l =>
    have hy := h y (List.mem_cons_self ..)
    unfold mayB at hy
    simp only [Bool.and_eq_true, decide_eq_true_eq] at hy
    have ha : aheadB y [] seq = false := by
      obtain ⟨key, r⟩ := y
      cases key with
      | nil => simp at hy
      | cons a key => simp [aheadB, cmpB]
    simp [List.takeWhile_cons, ha]
/-- what stands below level i -/
def belowF (P : Pl) (i : Nat) : List En := if i = 0 then P.map (·.1) else levelF P ((i - 1 : Nat) : Int)
theorem level_sub (P : Pl) (i : Nat) : List.Sublist (levelF P (i : Int)) (belowF P i) := by
  unfold belowF levelF
  rw [if_pos (by omega)]
  split
  · exact (List.filter_sublist ..).map _
  · rw [if_pos (by omega)]
    refine List.Sublist.map _ ?_
    have e : P.filter (fun p => decide ((i : Int) < p.2)) = (P.filter (fun p => decide (((i - 1 : Nat) : Int) < p.2))).filter (fun p => decide ((i : Int) < p.2)) := by
      rw [List.filter_filter]
      refine List.filter_congr fun p _ => ?_
      rw [Bool.eq_iff_iff]
      simp only [decide_eq_true_eq, Bool.and_eq_true]
      omega
    rw [e]
    exact List.filter_sublist ..
theorem level_zero {P : Pl} (h : ∀ p ∈ P, 1 ≤ p.2) : levelF P 0 = P.map (·.1) := by
  unfold levelF
  rw [if_pos (by omega), List.filter_eq_self.2 (fun p hp => by have := h p hp; simp; omega)]
theorem level_top {P : Pl} (h : ∀ p ∈ P, p.2 ≤ 12) : levelF P 12 = [] := by
  unfold levelF
  rw [if_pos (by omega), List.filter_eq_nil_iff.2 (fun p hp => by have := h p hp; simp; omega)]
  rfl
theorem levelF_len (P : Pl) (i : Int) : (levelF P i).length ≤ P.length := by
  unfold levelF
  split
  · rw [List.length_map]; exact List.length_filter_le _ _
  · simp
theorem ShI.each {w W : World} {tb : Nat} {hs : List Int} {P : Pl} (h : ShI w W tb hs P) : ∀ p ∈ P, mayB p.1 = true ∧ 1 ≤ p.2 ∧ p.2 ≤ 12 := by
  obtain ⟨S, h1, -, -⟩ := h
  exact h1.each
theorem sScan {w W : World} {tb : Nat} {hs : List Int} {P : Pl} (h : ShI w W tb hs P) (hn : P.length ≤ 200) :
    Calls Try.prog 13 #[.pointer (some ⟨tb, 0, none⟩), .slice none 0 0, .int .i64 300] W (LevelP (P.map (·.1)) W) := by
  obtain ⟨S, h1, h2, h3⟩ := h
  refine (tScan S tb hs P (.slice none 0 0) [] 300 W h1 (IsB.nil _) (by simp) (by omega)).mono ?_
  rintro e w' ⟨v, rfl, q1, q2⟩
  rw [posF_nil (fun x hx => by obtain ⟨p, hp, rfl⟩ := List.mem_map.1 hx; exact (h1.each p hp).1), List.drop_zero, List.take_of_length_le (by simp; omega)] at q1
  exact ⟨v, rfl, q1, q2⟩
set_option maxRecDepth 100000 in
set_option maxHeartbeats 8000000 in
theorem levels_any (hv lv : Value) (hs : List Int) (l : List En) (w : World) (hh : IsI w hv hs) (hl : IsEs w lv l) (hb : hs.length ≤ 17592186044416) : Calls Try.prog 5 #[hv, lv] w (Ret (.bool true) w) := by
  obtain ⟨ho, hc, rfl, -, -, -⟩ := hh.form
  obtain ⟨lo, lc, rfl, -, -, -⟩ := hl.form
  have hml := hl.max
  have HSH := Lib.hid (shown_any w)
  have HH := Lib.hid hh
  have HLV := Lib.hid hl
  have HBND := Lib.hid hb
  clear hh hl hb
  go_enter Try.func5, Try.ntmps5
  go_wp2_with fail
  refine HSH.out.mono ?_
  rintro e w1 ⟨rfl, hb1⟩
  have HN := Lib.hid (sNew hb1 (.slice ho hs.length hc) hs (HH.out.below inR_stays hb1) HBND.out)
  clear hb1
  go_wp2_with fail
  refine HN.out.mono ?_
  unfold NewS
  rintro e w2 ⟨tb, rfl, h2⟩
  have H2 := Lib.hid h2
  clear h2 HN
  go_wp2_with fail
  go_loopw [7] (fun i wr => ∃ k : Nat, ∃ P : Pl, k ≤ l.length ∧ k ≤ 200 ∧ i = .int .i64 k ∧ P.length ≤ k ∧ Hid (ShI w wr tb hs P)) (fun i _ => l.length - (intOf i).toNat)
  case atStart => exact ⟨0, [], by omega, by omega, rfl, by simp, H2.out⟩
  case round =>
    obtain ⟨k, P, hk1, hk2, rfl, hp, hsh⟩ := hrel
    by_cases hlt : k < l.length ∧ k < 200
    · obtain ⟨hlt1, hlt2⟩ := hlt
      obtain ⟨b, o, x, kv, vv, hao, cbb, hx, c0', c1', c2', c3', hkv, hvv, hu⟩ := IsEs.at4 HLV.out hlt1
      subst hao
      have hbel := hsh.out.bel
      have c0 := (hbel.cell (p := ⟨b, o + k * 4, none⟩) cbb).trans c0'
      have c1 := (hbel.cell (p := ⟨b, o + k * 4 + 1, none⟩) cbb).trans c1'
      have c2 := (hbel.cell (p := ⟨b, o + k * 4 + 2, none⟩) cbb).trans c2'
      have c3 := (hbel.cell (p := ⟨b, o + k * 4 + 3, none⟩) cbb).trans c3'
      have zb : b < wr.heap.size := Nat.lt_of_lt_of_le cbb hbel.size
      obtain ⟨ko, kc, rfl, -, -, -⟩ := hkv.out.form
      obtain ⟨vo, vc, rfl, -, -, -⟩ := hvv.out.form
      have HPU := Lib.hid (sPut hsh.out _ _ x (hkv.out.below hbel) (hvv.out.below hbel) hu (by omega) rfl rfl)
      have q1 : (k : Int) < l.length := by omega
      have q2 : (k : Int) < 200 := by omega
      have hw1 := IntWalk.i64_in ((k : Int) + 1) (by omega)
      have HLEN := Lib.hid (putF_len hs P x)
      clear c0' c1' c2' c3' hkv hvv hbel hx
      go_wp2_with fail
      refine HPU.out.mono ?_
      unfold PutS
      rintro e w3 ⟨rfl, h3⟩
      have H3 := Lib.hid h3
      clear h3 c0 c1 c2 c3
      go_wp2_with fail
      go_roundw
      case rel => exact ⟨k + 1, putF hs P x, by omega, by omega, by go_num, by have := HLEN.out; omega, H3.out⟩
      case measure => simp [intOf]; omega
    · have HSC := Lib.hid (sScan hsh.out (by omega))
      have HK : Hid (k = l.length ∨ k = 200) := Lib.hid (by omega)
      have hnot : ¬ ((k : Int) < l.length) ∨ ((k : Int) < l.length ∧ ¬ (k : Int) < 200) := by omega
      clear hlt
      rcases hnot with q1 | ⟨q1, q2⟩
      all_goals
        go_wp2_with fail
        refine HSC.out.mono ?_
        unfold LevelP
        rintro e w4 ⟨v4, rfl, ho4, hb4⟩
        have H4 := Lib.hid (hsh.out.below hb4)
        have HO4 := Lib.hid ho4
        obtain ⟨ao4, cap4, rfl, -, -, -⟩ := ho4.isEs.form
        have HLN := Lib.hid (sLen (hsh.out.below hb4))
        have hpl : ((P.map (·.1)).length : Int) = P.length := by simp
        clear ho4 hb4 HSC
        go_wp2_with fail
        refine HLN.out.mono ?_
        rintro e w5 ⟨rfl, hb5⟩
        have H5 := Lib.hid (H4.out.below hb5)
        have HE5 : Hid (IsEs w5 (.slice ao4 (P.map (·.1)).length cap4) (belowF P 0)) := Lib.hid (HO4.out.below hb5).isEs
        rw [List.length_map] at HE5
        clear hb5 HLN hpl HO4 H4
        go_wp2_with fail
        go_loopw [8, 9] (fun v i wr => ∃ n : Nat, n ≤ 12 ∧ i = .int .i64 n ∧ Hid (IsEs wr v (belowF P n)) ∧ Hid (ShI w wr tb hs P)) (fun _ i _ => 12 - (intOf i).toNat)
        case atStart => exact ⟨0, by omega, rfl, HE5.out, H5.out⟩
        case round =>
          obtain ⟨n, hn, rfl, heb, hsh2⟩ := hrel
          by_cases hn2 : n < 12
          · have q3 : (n : Int) < 12 := by omega
            have hw2 := IntWalk.i64_in ((n : Int) + 1) (by omega)
            have HLE := Lib.hid (sLevel hsh2.out (n : Int) rfl)
            obtain ⟨bo, bc, rfl, -, -, -⟩ := heb.out.form
            go_wp2_with fail
            refine HLE.out.mono ?_
            unfold LevelP
            rintro e w6 ⟨v6, rfl, ho6, hb6⟩
            have H6 := Lib.hid (hsh2.out.below hb6)
            have HL6 := Lib.hid ho6.isEs
            have HB6 := Lib.hid (heb.out.below enR_stays hb6)
            obtain ⟨ao6, cap6, rfl, -, -, -⟩ := ho6.isEs.form
            clear ho6 hb6 HLE
            go_upto_if 54 with fail
            go_cut [9] (fun s9 wx => s9 = .int .i64 n ∧ Below w6.heap.size w6 wx)
            case first =>
              by_cases h0 : n = 0
              · subst h0
                have HSA := Lib.hid (same_any _ _ _ _ w6 HL6.out HB6.out)
                have e0 : levelF P ((0 : Nat) : Int) = belowF P 0 := level_zero (fun p hp => (H6.out.each p hp).2.1)
                rw [decide_eq_true e0] at HSA
                clear e0
                go_wp2_with fail
                refine HSA.out.mono ?_
                rintro e w7 ⟨rfl, hb⟩
                have HB7 := Lib.hid hb
                clear hb
                go_wp2_with fail
                all_goals
                  go_meet
                  exact ⟨rfl, HB7.out⟩
              · have q4 : ((n : Int) == 0) = false := beq_eq_false_iff_ne.2 (by omega)
                clear h0
                go_wp2_with fail
                all_goals
                  go_meet
                  exact ⟨rfl, Below.refl _ _⟩
            case rest =>
              obtain ⟨rfl, hbc⟩ := hcut
              have H7 := Lib.hid (H6.out.below hbc)
              have HL7 := Lib.hid (HL6.out.below enR_stays hbc)
              have HB7 := Lib.hid (HB6.out.below enR_stays hbc)
              have HSUB := Lib.hid (level_sub P n)
              have hbl := HB7.out.max
              have hll := HL7.out.max
              clear hbc H6 HL6 HB6
              generalize hlevel : levelF P (n : Int) = level at *
              generalize hbelow : belowF P n = below at *
              have HEQ := Lib.hid hlevel
              clear hlevel hbelow
              obtain ⟨W7, hW7⟩ : ∃ W, W = wc := ⟨_, rfl⟩
              subst hW7
              go_wp2_with fail
              go_loopw [12, 13] (fun a b wr2 => ∃ p q : Nat, p ≤ below.length ∧ q ≤ level.length ∧ a = .int .i64 p ∧ b = .int .i64 q ∧ Hid (List.Sublist (level.drop q) (below.drop p)) ∧ Hid (Below W7.heap.size W7 wr2)) (fun _ b _ => level.length - (intOf b).toNat)
              case atStart => exact ⟨0, 0, Nat.zero_le _, Nat.zero_le _, rfl, rfl, HSUB.out, Below.refl _ _⟩
              case round =>
                obtain ⟨p, q, hp2, hq2, rfl, rfl, hsu, hb2⟩ := hrel
                by_cases hql : q < level.length
                · have q5 : (q : Int) < level.length := by omega
                  obtain ⟨b2, o2, x, kv2, vv2, hao2, dbb, hx, d0', d1', d2', d3', hkv2, hvv2, -⟩ := IsEs.at4 HL7.out hql
                  obtain ⟨ko2, kc2, rfl, -, -, -⟩ := hkv2.out.form
                  obtain ⟨vo2, vc2, rfl, -, -, -⟩ := hvv2.out.form
                  cases hao2
                  have hw3 := IntWalk.i64_in ((q : Int) + 1) (by omega)
                  have HDR : Hid (level.drop q = x :: level.drop (q + 1)) := Lib.hid (by
                    have e9 := hx.out
                    obtain ⟨h9, rfl⟩ := List.getElem?_eq_some_iff.1 e9
                    exact List.drop_eq_getElem_cons h9)
                  have hsu9 := hsu.out
                  rw [HDR.out] at hsu9
                  have HSU9 := Lib.hid hsu9
                  clear hsu9
                  go_wp2_with fail
                  go_loopw [12] (fun a wr3 => ∃ p : Nat, p ≤ below.length ∧ a = .int .i64 p ∧ Hid (List.Sublist (x :: level.drop (q + 1)) (below.drop p)) ∧ Hid (Below W7.heap.size W7 wr3)) (fun a _ => below.length - (intOf a).toNat)
                  case atStart => exact ⟨p, hp2, rfl, HSU9.out, hb2.out⟩
                  case round =>
                    obtain ⟨p, hp3, rfl, hsu3, hb3⟩ := hrel
                    have hpl : p < below.length := by
                      rcases Nat.lt_or_ge p below.length with h | h
                      · exact h
                      · have h9 := hsu3.out
                        rw [List.drop_of_length_le h] at h9
                        cases h9
                    obtain ⟨b, o, y, kv, vv, hao, cbb, hy, c0', c1', c2', c3', hkv, hvv, -⟩ := IsEs.at4 HB7.out hpl
                    obtain ⟨ko, kc, rfl, -, -, -⟩ := hkv.out.form
                    obtain ⟨vo, vc, rfl, -, -, -⟩ := hvv.out.form
                    cases hao
                    have c0 := (hb3.out.cell (p := ⟨b, o + p * 4, none⟩) cbb).trans c0'
                    have c1 := (hb3.out.cell (p := ⟨b, o + p * 4 + 1, none⟩) cbb).trans c1'
                    have c2 := (hb3.out.cell (p := ⟨b, o + p * 4 + 2, none⟩) cbb).trans c2'
                    have c3 := (hb3.out.cell (p := ⟨b, o + p * 4 + 3, none⟩) cbb).trans c3'
                    have d0 := (hb3.out.cell (p := ⟨b2, o2 + q * 4, none⟩) dbb).trans d0'
                    have d1 := (hb3.out.cell (p := ⟨b2, o2 + q * 4 + 1, none⟩) dbb).trans d1'
                    have d2 := (hb3.out.cell (p := ⟨b2, o2 + q * 4 + 2, none⟩) dbb).trans d2'
                    have d3 := (hb3.out.cell (p := ⟨b2, o2 + q * 4 + 3, none⟩) dbb).trans d3'
                    have zc : b < wr.heap.size := Nat.lt_of_lt_of_le cbb hb3.out.size
                    have zd : b2 < wr.heap.size := Nat.lt_of_lt_of_le dbb hb3.out.size
                    have HQ := Lib.hid (sameOne_any _ _ _ _ y x wr.drew (hkv.out.below hb3.out).drew (hvv.out.below hb3.out).drew (hkv2.out.below hb3.out).drew (hvv2.out.below hb3.out).drew)
                    have q6 : (p : Int) < below.length := by omega
                    have hw4 := IntWalk.i64_in ((p : Int) + 1) (by omega)
                    have HDB : Hid (below.drop p = y :: below.drop (p + 1)) := Lib.hid (by
                      have e9 := hy.out
                      obtain ⟨h9, rfl⟩ := List.getElem?_eq_some_iff.1 e9
                      exact List.drop_eq_getElem_cons h9)
                    have hs9 := hsu3.out
                    rw [HDB.out] at hs9
                    by_cases hyx : y = x
                    · have HT9 : Hid (List.Sublist (level.drop (q + 1)) (below.drop (p + 1))) := Lib.hid (by
                        subst hyx
                        exact List.Sublist.of_cons_cons hs9)
                      rw [decide_eq_true hyx] at HQ
                      clear hyx hs9 hsu3 c0' c1' c2' c3' hkv hvv
                      go_wp2_with fail
                      go_region_held3 (fun w' => w'.cell? ⟨b, o + p * 4, none⟩ = some (.slice ko y.1.length kc) ∧ w'.cell? ⟨b, o + p * 4 + 1, none⟩ = some (.int .u64 y.2.1) ∧ w'.cell? ⟨b, o + p * 4 + 2, none⟩ = some (.bool y.2.2.1) ∧ w'.cell? ⟨b, o + p * 4 + 3, none⟩ = some (.slice vo y.2.2.2.length vc) ∧ w'.cell? ⟨b2, o2 + q * 4, none⟩ = some (.slice ko2 x.1.length kc2) ∧ w'.cell? ⟨b2, o2 + q * 4 + 1, none⟩ = some (.int .u64 x.2.1) ∧ w'.cell? ⟨b2, o2 + q * 4 + 2, none⟩ = some (.bool x.2.2.1) ∧ w'.cell? ⟨b2, o2 + q * 4 + 3, none⟩ = some (.slice vo2 x.2.2.2.length vc2)) (first | exact ⟨by assumption, by assumption, by assumption, by assumption, by assumption, by assumption, by assumption, by assumption⟩ | go_keep) (first | (go_at_call 11; refine HQ.out.mono ?_; rintro e w8 ⟨rfl, hb⟩; have hb8 := bel_of_drew hb; have HB8 := Lib.hid hb8; have x0 : w8.cell? ⟨b, o + p * 4, none⟩ = some (.slice ko y.1.length kc) := (hb8.cell (p := ⟨b, o + p * 4, none⟩) zc).trans c0; have x1 : w8.cell? ⟨b, o + p * 4 + 1, none⟩ = some (.int .u64 y.2.1) := (hb8.cell (p := ⟨b, o + p * 4 + 1, none⟩) zc).trans c1; have x2 : w8.cell? ⟨b, o + p * 4 + 2, none⟩ = some (.bool y.2.2.1) := (hb8.cell (p := ⟨b, o + p * 4 + 2, none⟩) zc).trans c2; have x3 : w8.cell? ⟨b, o + p * 4 + 3, none⟩ = some (.slice vo y.2.2.2.length vc) := (hb8.cell (p := ⟨b, o + p * 4 + 3, none⟩) zc).trans c3; have y0 : w8.cell? ⟨b2, o2 + q * 4, none⟩ = some (.slice ko2 x.1.length kc2) := (hb8.cell (p := ⟨b2, o2 + q * 4, none⟩) zd).trans d0; have y1 : w8.cell? ⟨b2, o2 + q * 4 + 1, none⟩ = some (.int .u64 x.2.1) := (hb8.cell (p := ⟨b2, o2 + q * 4 + 1, none⟩) zd).trans d1; have y2 : w8.cell? ⟨b2, o2 + q * 4 + 2, none⟩ = some (.bool x.2.2.1) := (hb8.cell (p := ⟨b2, o2 + q * 4 + 2, none⟩) zd).trans d2; have y3 : w8.cell? ⟨b2, o2 + q * 4 + 3, none⟩ = some (.slice vo2 x.2.2.2.length vc2) := (hb8.cell (p := ⟨b2, o2 + q * 4 + 3, none⟩) zd).trans d3; clear hb hb8 c0 c1 c2 c3 d0 d1 d2 d3))
                      go_wp2_with fail
                      refine ⟨⟨p + 1, q + 1, by omega, by omega, by go_num, by go_num, HT9.out, bel_call hb3.out HB8.out⟩, ?_⟩
                      simp [intOf]
                      omega
                    · have HT9 : Hid (List.Sublist (x :: level.drop (q + 1)) (below.drop (p + 1))) := Lib.hid (by
                        cases hs9 with
                        | cons _ h => exact h
                        | cons_cons _ h => exact absurd rfl hyx)
                      rw [decide_eq_false hyx] at HQ
                      clear hyx hs9 hsu3 c0' c1' c2' c3' hkv hvv
                      go_wp2_with fail
                      go_region_held3 (fun w' => w'.cell? ⟨b, o + p * 4, none⟩ = some (.slice ko y.1.length kc) ∧ w'.cell? ⟨b, o + p * 4 + 1, none⟩ = some (.int .u64 y.2.1) ∧ w'.cell? ⟨b, o + p * 4 + 2, none⟩ = some (.bool y.2.2.1) ∧ w'.cell? ⟨b, o + p * 4 + 3, none⟩ = some (.slice vo y.2.2.2.length vc) ∧ w'.cell? ⟨b2, o2 + q * 4, none⟩ = some (.slice ko2 x.1.length kc2) ∧ w'.cell? ⟨b2, o2 + q * 4 + 1, none⟩ = some (.int .u64 x.2.1) ∧ w'.cell? ⟨b2, o2 + q * 4 + 2, none⟩ = some (.bool x.2.2.1) ∧ w'.cell? ⟨b2, o2 + q * 4 + 3, none⟩ = some (.slice vo2 x.2.2.2.length vc2)) (first | exact ⟨by assumption, by assumption, by assumption, by assumption, by assumption, by assumption, by assumption, by assumption⟩ | go_keep) (first | (go_at_call 11; refine HQ.out.mono ?_; rintro e w8 ⟨rfl, hb⟩; have hb8 := bel_of_drew hb; have HB8 := Lib.hid hb8; have x0 : w8.cell? ⟨b, o + p * 4, none⟩ = some (.slice ko y.1.length kc) := (hb8.cell (p := ⟨b, o + p * 4, none⟩) zc).trans c0; have x1 : w8.cell? ⟨b, o + p * 4 + 1, none⟩ = some (.int .u64 y.2.1) := (hb8.cell (p := ⟨b, o + p * 4 + 1, none⟩) zc).trans c1; have x2 : w8.cell? ⟨b, o + p * 4 + 2, none⟩ = some (.bool y.2.2.1) := (hb8.cell (p := ⟨b, o + p * 4 + 2, none⟩) zc).trans c2; have x3 : w8.cell? ⟨b, o + p * 4 + 3, none⟩ = some (.slice vo y.2.2.2.length vc) := (hb8.cell (p := ⟨b, o + p * 4 + 3, none⟩) zc).trans c3; have y0 : w8.cell? ⟨b2, o2 + q * 4, none⟩ = some (.slice ko2 x.1.length kc2) := (hb8.cell (p := ⟨b2, o2 + q * 4, none⟩) zd).trans d0; have y1 : w8.cell? ⟨b2, o2 + q * 4 + 1, none⟩ = some (.int .u64 x.2.1) := (hb8.cell (p := ⟨b2, o2 + q * 4 + 1, none⟩) zd).trans d1; have y2 : w8.cell? ⟨b2, o2 + q * 4 + 2, none⟩ = some (.bool x.2.2.1) := (hb8.cell (p := ⟨b2, o2 + q * 4 + 2, none⟩) zd).trans d2; have y3 : w8.cell? ⟨b2, o2 + q * 4 + 3, none⟩ = some (.slice vo2 x.2.2.2.length vc2) := (hb8.cell (p := ⟨b2, o2 + q * 4 + 3, none⟩) zd).trans d3; clear hb hb8 c0 c1 c2 c3 d0 d1 d2 d3))
                      go_wp2_with fail
                      refine ⟨⟨p + 1, by omega, by go_num, HT9.out, bel_call hb3.out HB8.out⟩, ?_⟩
                      simp [intOf]
                      omega
                · have hqe : q = level.length := by omega
                  go_wp2_with fail
                  go_roundw
                  case rel => exact ⟨n + 1, by omega, by go_num, by unfold belowF; rw [if_neg (by omega), Nat.add_sub_cancel, HEQ.out]; exact HL7.out.below enR_stays hb2.out, H7.out.below hb2.out⟩
                  case measure => simp [intOf]; omega
          · have hn3 : n = 12 := by omega
            subst hn3
            have HLE := Lib.hid (sLevel hsh2.out (12 : Int) (level_top (fun p hp => (hsh2.out.each p hp).2.2)))
            go_wp2_with fail
            refine HLE.out.mono ?_
            unfold LevelP
            rintro e w6 ⟨v6, rfl, ho6, hb6⟩
            have H6 := Lib.hid (hsh2.out.below hb6)
            obtain ⟨ao6, cap6, rfl, -, -, -⟩ := ho6.isEs.form
            clear ho6 hb6 HLE
            go_wp2_with fail
            go_ret
            exact ⟨rfl, H6.out.bel⟩
end Mt
end Go.Proofs.Ytgkgfghmpimaoaa
