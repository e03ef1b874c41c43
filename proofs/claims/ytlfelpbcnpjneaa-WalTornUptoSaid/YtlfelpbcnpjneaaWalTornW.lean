/- The walk of WalTorn. -/
import Derived.Test.YtlfelpbcnpjneaaWalShown
import Derived.Test.YtlfelpbcnpjneaaWalTornP
namespace Go.Proofs.Ytlfelpbcnpjneaa
open Go.RowKit
namespace Wal
open Codec
def opsR (w : World) (cs : List Value) (x : List Opr) : Prop := ∃ v, cs = [v] ∧ IsOps w v x
theorem opsR_stays : Stays opsR := fun w w' cs x hb ⟨v, h1, h2⟩ => ⟨v, h1, IsL.below opR_stays h2 hb⟩
theorem infoInt : (Try.prog.info? 3).map (fun i => (i.zero, i.size, i.bytes)) = some (some (.int .i64 0), 1, 8) := by kernel_rfl
theorem lastNx_le : ∀ {bs : List Bat} {nx : Nat}, nx ≤ 4611686018427387904 → chainOk nx bs → lastNx nx bs ≤ 4611686018427387904
  | [], _, h, _ => h
  | x :: bs, nx, _, ⟨_, h2, h3⟩ => by have := lastNx_le (nx := x.1 + x.2.length) (encF_ok h2).2.2.2.2.2.1 h3; exact this
theorem own_at' {w : World} {base : Nat} {e : TypeId} {ao : Option Addr} {n cap k : Nat} {xs : List Value} {u : Value} (h : w.ownsRow base e 1 (.slice ao n cap) n xs) (hu : xs[k]? = some u) : ∃ g, ao = some ⟨g, 0, none⟩ ∧ base ≤ g ∧ g < w.heap.size ∧ w.cell? ⟨g, k, none⟩ = some u := own_cell h hu
def TornRel (bl : List (List Opr)) (w : World) (gk : Nat) (av ev sv iv : Value) (wr : World) : Prop := ∃ (i : Nat) (bs : List Bat), gk = 40 - i ∧ iv = .int .i64 i ∧ i ≤ 40 ∧ i ≤ bl.length ∧ sv = .int .u64 (lastNx 1 bs) ∧ chainOk 1 bs ∧ bs.length ≤ i ∧ Rng (batsB bs) ∧
  wr.ownsRow w.heap.size 5 1 av (batsB bs).length ((batsB bs).map (Value.int .u8)) ∧ wr.ownsRow w.heap.size 3 1 ev bs.length ((endsOf bs).map fun n : Nat => Value.int .i64 (n : Int)) ∧ Below w.heap.size w wr
set_option maxRecDepth 100000 in
set_option maxHeartbeats 4000000 in
theorem torn_walk (bv : Value) (bl : List (List Opr)) (cut by_ : Int) (w : World) (h : IsL 1 opsR w bv bl) (hcut : -9223372036854775808 ≤ cut ∧ cut ≤ 9223372036854775807) (hby : 0 ≤ by_ ∧ by_ ≤ 255) :
    Calls Try.prog 5 #[bv, .int .i64 cut, .int .u8 by_] w (Ret (.bool true) w) := by
  have hm := h.max
  obtain ⟨ao, cap, rfl, hnc, hcap, -⟩ := h.form
  have HB := Lib.hid h
  obtain ⟨i0, hi0, hz0, hz1, hz2⟩ := info_parts infoU8
  have HI := Lib.hid hi0; have HZ0 := Lib.hid hz0; have HZ1 := Lib.hid hz1; have HZ2 := Lib.hid hz2
  obtain ⟨i1, hi1, hy0, hy1, hy2⟩ := info_parts infoInt
  have HI1 := Lib.hid hi1; have HY0 := Lib.hid hy0; have HY1 := Lib.hid hy1; have HY2 := Lib.hid hy2
  clear hi0 hz0 hz1 hz2 hi1 hy0 hy1 hy2 h
  go_enter Try.func5, Try.ntmps5
  go_wp2_with fail
  refine (shown_any _).mono ?_
  rintro e w1 ⟨rfl, g1⟩
  have G1 := Lib.hid g1
  clear g1
  go_wp2_with fail
  go_loopg [8, 9, 10, 11] 40 (fun gk av ev sv iv wr => TornRel bl w gk av ev sv iv wr)
  case atStart => exact ⟨0, [], rfl, rfl, by omega, by omega, rfl, trivial, by simp, Rng.nil, World.ownsRow_nil _ _ _ _, World.ownsRow_nil _ _ _ _, G1.out⟩
  case round =>
    obtain ⟨i, bs, hgk, rfl, hi40, hil, rfl, hch, hbl, hrng, ha, hends, hbel⟩ := hrel
    have HCH := Lib.hid hch
    have HRNG := Lib.hid hrng
    have HA := Lib.hid ha
    have HE := Lib.hid hends
    have HBEL := Lib.hid hbel
    have hlen := batsB_len hch
    have hs62 := lastNx_le (by decide) hch
    obtain ⟨oa, ca, rfl, hca, -, -, -⟩ := own_form ha
    obtain ⟨oe, ce, rfl, hce, -, -, -⟩ := own_form hends
    clear hch hrng ha hends hbel
    by_cases hgo : i < bl.length ∧ i < 40
    · obtain ⟨hg1, hg2⟩ := hgo
      have hg3 : (i : Int) < bl.length := by omega
      have hg4 : (i : Int) < 40 := by omega
      have hg5 : 0 ≤ (i : Int) := by omega
      obtain ⟨b, o, l, cs, hao, hbb, hx, hcs1, hcs, hR⟩ := HB.out.at_ hg1
      subst hao
      obtain ⟨ov, rfl, hov⟩ := hR.out
      have hc0w := hcs.out 0 ov rfl
      simp only [Nat.mul_one, Nat.add_zero] at hc0w
      have hov' := IsL.below opR_stays hov HBEL.out
      have hc0 := (HBEL.out.cell (p := ⟨b, o + i, none⟩) hbb).trans hc0w
      obtain ⟨oo, oc, rfl, -, -, -⟩ := hov.form
      have HENC := Lib.hid (encode_any (lastNx 1 bs) (by omega) _ l wr hov')
      have HG := Lib.hid hgk
      obtain ⟨s, hsE⟩ : ∃ s, lastNx 1 bs = s := ⟨_, rfl⟩
      rw [hsE] at HENC hs62
      have HSE := Lib.hid hsE
      have hw1 := IntWalk.i64_in ((i : Int) + 1) (by omega)
      have HC0W := Lib.hid hc0w
      clear hgk hov hov' hcs hR hcs1 hc0w
      unfold EncPost at HENC
      go_wp2_with fail
      refine HENC.out.mono ?_
      rintro e w2 ⟨ev, rfl, hev, g2⟩
      have HEV := Lib.hid hev
      obtain ⟨eo, ec, rfl, -, -, -, -⟩ := hev.form
      have HB2 := Lib.hid (HBEL.out.trans (g2.mono HBEL.out.size))
      have HA2 := Lib.hid (own_below HA.out g2)
      have HE2 := Lib.hid (own_below HE.out g2)
      have C2 := (HB2.out.cell (p := ⟨b, o + i, none⟩) hbb).trans HC0W.out
      have z1 := HBEL.out.size
      have z2 := g2.size
      clear hev g2
      by_cases he : (encF s l).2 = 0
      · have hok := encF_ok he
        obtain ⟨k1, k2, k3, k4, k5, k6, k7⟩ := hok
        have hbl2 := batB_len (x := (s, l)) he
        have hX : (encF s l).1 = batB (s, l) := k1
        rw [he]
        rw [hX] at HEV
        rw [hX]
        have HHE := Lib.hid he
        obtain ⟨X, hXX⟩ : ∃ X, batB (s, l) = X := ⟨_, rfl⟩
        rw [hXX] at HEV hbl2
        rw [hXX]
        have HXX := Lib.hid hXX
        obtain ⟨L, hL⟩ : ∃ L, batsB bs = L := ⟨_, rfl⟩
        rw [hL] at HA2 hlen hca
        rw [hL]
        have HLL := Lib.hid hL
        have hw2 : IntKind.u64.wrap (l.length : Int) = l.length := by simp only [IntKind.wrap, IntKind.bits, IntKind.signed]; simp; omega
        have hw3 : IntKind.u64.wrap ((s : Int) + l.length) = s + l.length := by simp only [IntKind.wrap, IntKind.bits, IntKind.signed]; simp; omega
        have hb1 : L.length + X.length ≤ 140737488355328 := by omega
        have hb2 : bs.length < 9223372036854775807 := by omega
        have hb3 : (bs.length + 1) * 8 ≤ 140737488355328 := by omega
        have hzb : w.heap.size ≤ w2.heap.size := HB2.out.size
        clear he k1 hX hXX hL
        go_wp2_with (first
          | (at_builtin; (refine wpList_append_bytes' (w := w2) (base := w.heap.size) (.tmp 47) (.tmp 48) _ rfl rfl i0 _ Try.underlying28 HI.out HZ0.out HZ1.out HZ2.out rfl _ L X rfl rfl HA2.out HEV.out.isB hb1 hzb ?_; intro v3 w3 ho3 hg3 hb3'; have HA3 := Lib.hid ho3; have HE3 := Lib.hid (HE2.out.kept hg3 (own_own_ne HE2.out HA2.out (by decide))); have G3 := Lib.hid (bel_row HB2.out hg3 (fun i hi => (HA2.out.lt i hi).1)); have C3 := (G3.out.cell (p := ⟨b, o + i, none⟩) hbb).trans HC0W.out; have z3 := hg3.size; obtain ⟨o3, c3, rfl, hcc3, -, -, -⟩ := own_form ho3; clear ho3 hg3 hb3'))
          | (at_builtin; refine wpList_append_one' (w := w3) (base := w.heap.size) (.tmp 50) (.tmp 53) _ rfl rfl i1 _ 8 Try.underlying40 HI1.out HY0.out HY1.out HY2.out rfl (.int .i64 ((L.length + X.length : Nat) : Int)) rfl rfl HE3.out rfl hb2 hb3 G3.out.size ?_; intro v4 w4 ho4 hg4; have HE4 := Lib.hid ho4; have HA4 := Lib.hid (HA3.out.kept hg4 (own_own_ne HA3.out HE3.out (by decide))); have G4 := Lib.hid (bel_row G3.out hg4 (fun i hi => (HE3.out.lt i hi).1)); have C4 := (G4.out.cell (p := ⟨b, o + i, none⟩) hbb).trans HC0W.out; obtain ⟨o4, c4, rfl, -, -, -, -⟩ := own_form ho4; clear ho4 hg4))
        have HRL : Hid (TornRel bl w (40 - (i + 1)) (.slice o3 (L.length + X.length) c3) (.slice o4 (bs.length + 1) c4) (.int .u64 ((s : Int) + l.length)) (.int .i64 ((i : Int) + 1)) w4) := Lib.hid (by
          have e1 : batsB (bs ++ [(s, l)]) = L ++ X := by rw [batsB_snoc, HLL.out, HXX.out]
          refine ⟨i + 1, bs ++ [(s, l)], rfl, by simp, by omega, by omega, by rw [lastNx_snoc]; simp, ?_, by rw [List.length_append]; simp; omega, ?_, ?_, ?_, G4.out⟩
          · have := chainOk_snoc bs 1 l HCH.out (by rw [HSE.out]; exact HHE.out)
            rw [HSE.out] at this
            exact this
          · rw [e1]
            have := HRNG.out
            rw [HLL.out] at this
            exact this.append HEV.out.rng
          · rw [e1, List.length_append]; exact HA4.out
          · rw [endsOf_snoc, e1, List.length_append, List.map_append, List.length_append]; exact HE4.out)
        have HME := Lib.hid (show 40 - (i + 1) < 40 - i by omega)
        go_roundg (40 - (i + 1))
        case measure => have := HG.out; have := HME.out; omega
        case rel => exact HRL.out
      · have q : ((encF s l).2 != 0) = true := by simpa using he
        have HRL : Hid (TornRel bl w (40 - (i + 1)) (.slice oa (batsB bs).length ca) (.slice oe bs.length ce) (.int .u64 s) (.int .i64 ((i : Int) + 1)) w2) := Lib.hid ⟨i + 1, bs, rfl, by simp, by omega, by omega, by rw [HSE.out], HCH.out, by omega, HRNG.out, HA2.out, HE2.out, HB2.out⟩
        have HME := Lib.hid (show 40 - (i + 1) < 40 - i by omega)
        clear he
        go_wp2_with fail
        go_roundg (40 - (i + 1))
        case measure => have := HG.out; have := HME.out; omega
        case rel => exact HRL.out
    · obtain ⟨L, hL⟩ : ∃ L, batsB bs = L := ⟨_, rfl⟩
      have HLL := Lib.hid hL
      rw [hL] at HA HRNG hlen hca
      rw [hL]
      have hcond : i = bl.length ∨ ((i : Int) < bl.length ∧ i = 40) := by
        by_cases h1 : i < bl.length
        · exact .inr ⟨by omega, by omega⟩
        · exact .inl (by omega)
      clear hgo hL hgk
      by_cases h0 : L.length = 0 ∨ cut < 0
      · by_cases h00 : L.length = 0
        · have hLn : L = [] := List.eq_nil_of_length_eq_zero h00
          subst hLn
          clear h0 h00
          rcases hcond with rfl | ⟨hc1, rfl⟩
          all_goals (
            go_wp2_with fail
            go_ret
            exact ⟨rfl, HBEL.out⟩)
        · have h1 : cut < 0 := h0.resolve_left h00
          have h2 : ((L.length : Int) == 0) = false := beq_eq_false_iff_ne.2 (by omega)
          clear h0
          rcases hcond with rfl | ⟨hc1, rfl⟩
          all_goals (
            go_wp2_with fail
            go_ret
            exact ⟨rfl, HBEL.out⟩)
      · have h1 : ¬ cut < 0 := fun h => h0 (.inr h)
        have h2 : 0 < L.length := by omega
        obtain ⟨A, rfl⟩ := Int.eq_ofNat_of_zero_le (show 0 ≤ cut by omega)
        obtain ⟨k, hk⟩ : ∃ k, A % L.length = k := ⟨_, rfl⟩
        have hkl : k < L.length := by rw [← hk]; exact Nat.mod_lt _ (by omega)
        have hkI : (A : Int) % (L.length : Int) = (k : Int) := by rw [← hk]; push_cast; rfl
        have h3 : ((L.length : Int) == 0) = false := beq_eq_false_iff_ne.2 (by omega)
        have h3' : ¬ (L.length : Int) = 0 := by omega
        have h4 : 0 ≤ (A : Int) := by omega
        clear h0 hk
        have HR := Lib.hid HRNG.out
        obtain ⟨y, hy⟩ : ∃ y, L[k]? = some y := ⟨_, List.getElem?_eq_getElem hkl⟩
        have hatk : (L.map (Value.int .u8))[k]? = some (.int .u8 y) := by rw [List.getElem?_map, hy]; rfl
        obtain ⟨ga, rfl, hga, hgaw, hcy⟩ := own_at' HA.out hatk
        have HY := Lib.hid hy
        clear hy hatk
        rcases hcond with rfl | ⟨hc1, rfl⟩
        all_goals (
          go_wp2_with fail
          go_loopg [15] bs.length (fun gk nv wr' => ∃ n, gk = bs.length - n ∧ nv = .int .i64 n ∧ n ≤ bs.length ∧ Hid ((batsB (bs.take n)).length ≤ k) ∧ wr' = wr)
          case atStart => exact ⟨0, rfl, rfl, Nat.zero_le _, Nat.zero_le _, rfl⟩
          case round =>
            obtain ⟨n, hgk, rfl, hn, hle, rfl⟩ := hrel
            have hnb : n < bs.length := by
              rcases Nat.lt_or_ge n bs.length with h | h
              · exact h
              · have := hle.out
                rw [show n = bs.length by omega, List.take_length, HLL.out] at this
                omega
            obtain ⟨E, hE⟩ : ∃ E, (batsB (bs.take (n + 1))).length = E := ⟨_, rfl⟩
            have hat : ((endsOf bs).map fun n : Nat => Value.int .i64 (n : Int))[n]? = some (.int .i64 (E : Int)) := by rw [List.getElem?_map, endsOf_at hnb, hE]; rfl
            obtain ⟨g, rfl, -, -, hcE⟩ := own_at' HE.out hat
            have hn1 : (n : Int) < bs.length := by omega
            have HEE := Lib.hid hE
            have HGK := Lib.hid hgk
            clear hgk hE hat
            by_cases hEk : E ≤ k
            · have hEk' : (E : Int) ≤ k := by omega
              go_wp2_with fail
              go_roundg (bs.length - (n + 1))
              case measure => have := HGK.out; omega
              case rel => exact ⟨n + 1, rfl, by go_num, by omega, by rw [HEE.out]; exact hEk, rfl⟩
            · have hEk' : ¬ (E : Int) ≤ k := by omega
              obtain ⟨F, hF⟩ : ∃ F, (batsB (bs.take n)).length = F := ⟨_, rfl⟩
              have HFF := Lib.hid hF
              have HFK := hle.out
              rw [hF] at HFK
              clear hF
              have hfrom : n = 0 ∧ F = 0 ∨ ∃ m, n = m + 1 ∧ wr.cell? ⟨g, m, none⟩ = some (.int .i64 (F : Int)) := by
                rcases n with _ | m
                · left
                  exact ⟨rfl, by rw [← HFF.out]; simp [batsB]⟩
                · right
                  have hat2 : ((endsOf bs).map fun n : Nat => Value.int .i64 (n : Int))[m]? = some (.int .i64 (F : Int)) := by rw [List.getElem?_map, endsOf_at (by omega), HFF.out]; rfl
                  obtain ⟨g', e, -, -, hc⟩ := own_at' HE.out hat2
                  cases e
                  exact ⟨m, rfl, hc⟩
              obtain ⟨x, hx⟩ : ∃ x, bs[n]? = some x := ⟨_, List.getElem?_eq_getElem hnb⟩
              have HX := Lib.hid hx
              have hcz := chainOk_zero HCH.out
              have hcut := torn_cut hcz (by rw [HLL.out]; exact HR.out) hx (by rw [HFF.out]; exact HFK) (by rw [HEE.out]; omega)
              rw [HLL.out, HFF.out] at hcut
              have HCUT := Lib.hid hcut
              have HCZ := Lib.hid hcz
              have HREP := Lib.hid (replay_any _ (L.take k) wr (IsB.front (IsB.of_own HA.out HR.out) k (by omega)) (by rw [List.length_take]; omega))
              have hkc : k ≤ ca := by omega
              clear hx hcut hcz hle
              unfold RepPost at HREP
              rw [HCUT.out.2] at HREP
              have hn63 : n ≤ 40 := by omega
              rcases hfrom with ⟨rfl, hFz⟩ | ⟨m, rfl, hcF⟩
              · go_wp2_with fail
                refine HREP.out.mono ?_
                rintro e w5 ⟨rv, rfl, hrv, g5⟩
                rw [HCUT.out.1] at hrv
                obtain ⟨ys, hys, -⟩ := hrv
                rw [List.length_take, Nat.min_eq_left (by omega)] at hys
                obtain ⟨ro, rc, rfl, -, -, -, -⟩ := own_form hys
                have G5 := Lib.hid (HBEL.out.trans (g5.mono HBEL.out.size))
                have HA5 := Lib.hid (own_below HA.out g5)
                have hcy5 := (g5.cell (p := ⟨ga, k, none⟩) hgaw).trans hcy
                have hfz5 : w5.frozen? ⟨ga, k, none⟩ = false := by
                  obtain ⟨_, _, e, -, -, -, -, hf⟩ := (OwnS.of_own HA5.out HR.out).at_ (k := k) hkl
                  cases e
                  exact hf
                obtain ⟨D, hD⟩ : ∃ D, k - F = D := ⟨_, rfl⟩
                have hkF : (k : Int) - F = D := by omega
                have hwD := IntWalk.i64_in ((k : Int) - F) (by omega)
                have hwF := IntWalk.i64_in ((F : Int) + 1) (by omega)
                have hFt : ((F : Int) + 1).toNat = F + 1 := by omega
                have hF0 : 0 ≤ (F : Int) + 1 := by omega
                have hF1 : D < 3 ∨ (F + 1 < L.length ∧ w5.cell? ⟨ga, F + 1, none⟩ = some (.int .u8 (L.getD (F + 1) 0))) := by
                  rcases Nat.lt_or_ge D 3 with h | h
                  · exact .inl h
                  · have hl1 : F + 1 < L.length := by omega
                    obtain ⟨_, e, -, -, hc⟩ := own_at' HA5.out (show (L.map (Value.int .u8))[F + 1]? = some (.int .u8 (L.getD (F + 1) 0)) by rw [List.getElem?_map, List.getD_eq_getElem?_getD, List.getElem?_eq_getElem hl1]; rfl)
                    cases e
                    exact .inr ⟨hl1, hc⟩
                obtain ⟨c, hc⟩ : ∃ c, L.getD (F + 1) 0 = c := ⟨_, rfl⟩
                rw [hc] at hF1
                have HCC := Lib.hid hc
                have HDD := Lib.hid hD
                clear hys g5 hc hD hcy
                have hbody : (D < 3) ∨ (6 ≤ D) ∨ (3 ≤ D ∧ D < 6 ∧ c < 128) ∨ (3 ≤ D ∧ D < 6 ∧ ¬ c < 128) := by omega
                have HTURN := Lib.hid (fun z hz hne hb => torn_turn (z := z) HCZ.out (by rw [HLL.out]; exact HR.out) HX.out (by rw [HFF.out]; exact HFK) (by rw [HEE.out]; omega) hb (by rw [HLL.out]; exact HY.out) hz hne)
                subst hFz
                have hDk : D = k := by omega
                subst hDk
                simp only [Nat.zero_add] at hF1
                rcases hbody with hb1 | hb1 | ⟨hb1, hb2, hb3⟩ | ⟨hb1, hb2, hb3⟩
                · have e6 : decide ((6 : Int) ≤ (D : Int)) = false := by rw [decide_eq_false_iff_not]; omega
                  have e3 : decide ((3 : Int) ≤ (D : Int)) = false := by rw [decide_eq_false_iff_not]; omega
                  have hF2 : True := trivial
                  clear hF1 hb1
                  by_cases hz : by_ = 0
                  · subst hz
                    go_wp2_with fail
                    go_ret
                    exact ⟨rfl, G5.out⟩
                  · have q : (by_ == 0) = false := beq_eq_false_iff_ne.2 hz
                    go_wp2_with fail
                    go_ret
                    exact ⟨rfl, G5.out⟩
                · have e6 : decide ((6 : Int) ≤ (D : Int)) = true := by rw [decide_eq_true_iff]; omega
                  clear hF1
                  by_cases hz : by_ = 0
                  · subst hz
                    go_wp2_with fail
                    go_ret
                    exact ⟨rfl, G5.out⟩
                  · have q : (by_ == 0) = false := beq_eq_false_iff_ne.2 hz
                    go_wp2_with fail
                    have hst := OwnS.stored (OwnS.of_own HA5.out HR.out) (k := D) (x := bits .xor .u8 y by_) hkl (turn_rng _ _)
                    have HST := Lib.hid hst
                    have hyr := HR.out y (List.mem_of_getElem? HY.out)
                    have hT := HTURN.out (bits .xor .u8 y by_) (turn_rng _ _) (turn_ne hyr hby hz) (.inl (by rw [HFF.out]; have := HDD.out; omega))
                    rw [HLL.out] at hT
                    have HTT := Lib.hid hT
                    have G6 := Lib.hid (G5.out.setCell (p := ⟨ga, D, none⟩) hga (.int .u8 (bits .xor .u8 y by_)))
                    clear hst hT
                    refine (replay_any _ (L.set D (bits .xor .u8 y by_)) _ HST.out.isB (by rw [List.length_set]; omega)).mono ?_
                    unfold RepPost
                    rw [HTT.out]
                    rintro e w7 ⟨sv, rfl, hsv, g7⟩
                    obtain ⟨zs, hzs, -⟩ := hsv
                    rw [List.length_take, Nat.min_eq_left (by omega)] at hzs
                    obtain ⟨so, sc, rfl, -, -, -, -⟩ := own_form hzs
                    have G7 := Lib.hid (G6.out.trans (g7.mono (show w.heap.size ≤ (w5.setCell _ _).heap.size by have := G5.out.size; simpa using this)))
                    clear hzs g7
                    (try simp only [HFF.out])
                    go_wp2_with fail
                    go_ret
                    exact ⟨rfl, G7.out⟩
                · have e6 : decide ((6 : Int) ≤ (D : Int)) = false := by rw [decide_eq_false_iff_not]; omega
                  have e3 : decide ((3 : Int) ≤ (D : Int)) = true := by rw [decide_eq_true_iff]; omega
                  have e7 : decide (c < 128) = true := decide_eq_true hb3
                  obtain ⟨hl1, hcc⟩ := hF1.resolve_left (by omega)
                  clear hF1
                  by_cases hz : by_ = 0
                  · subst hz
                    go_wp2_with fail
                    go_ret
                    exact ⟨rfl, G5.out⟩
                  · have q : (by_ == 0) = false := beq_eq_false_iff_ne.2 hz
                    go_wp2_with fail
                    have hst := OwnS.stored (OwnS.of_own HA5.out HR.out) (k := D) (x := bits .xor .u8 y by_) hkl (turn_rng _ _)
                    have HST := Lib.hid hst
                    have hyr := HR.out y (List.mem_of_getElem? HY.out)
                    have hT := HTURN.out (bits .xor .u8 y by_) (turn_rng _ _) (turn_ne hyr hby hz) (.inr ⟨by rw [HFF.out]; have := HDD.out; omega, by rw [HFF.out, HLL.out, HCC.out]; exact hb3⟩)
                    rw [HLL.out] at hT
                    have HTT := Lib.hid hT
                    have G6 := Lib.hid (G5.out.setCell (p := ⟨ga, D, none⟩) hga (.int .u8 (bits .xor .u8 y by_)))
                    clear hst hT
                    refine (replay_any _ (L.set D (bits .xor .u8 y by_)) _ HST.out.isB (by rw [List.length_set]; omega)).mono ?_
                    unfold RepPost
                    rw [HTT.out]
                    rintro e w7 ⟨sv, rfl, hsv, g7⟩
                    obtain ⟨zs, hzs, -⟩ := hsv
                    rw [List.length_take, Nat.min_eq_left (by omega)] at hzs
                    obtain ⟨so, sc, rfl, -, -, -, -⟩ := own_form hzs
                    have G7 := Lib.hid (G6.out.trans (g7.mono (show w.heap.size ≤ (w5.setCell _ _).heap.size by have := G5.out.size; simpa using this)))
                    clear hzs g7
                    (try simp only [HFF.out])
                    go_wp2_with fail
                    go_ret
                    exact ⟨rfl, G7.out⟩
                · have e6 : decide ((6 : Int) ≤ (D : Int)) = false := by rw [decide_eq_false_iff_not]; omega
                  have e3 : decide ((3 : Int) ≤ (D : Int)) = true := by rw [decide_eq_true_iff]; omega
                  have e7 : decide (c < 128) = false := decide_eq_false hb3
                  obtain ⟨hl1, hcc⟩ := hF1.resolve_left (by omega)
                  clear hF1
                  by_cases hz : by_ = 0
                  · subst hz
                    go_wp2_with fail
                    go_ret
                    exact ⟨rfl, G5.out⟩
                  · have q : (by_ == 0) = false := beq_eq_false_iff_ne.2 hz
                    go_wp2_with fail
                    go_ret
                    exact ⟨rfl, G5.out⟩
              · go_wp2_with fail
                refine HREP.out.mono ?_
                rintro e w5 ⟨rv, rfl, hrv, g5⟩
                rw [HCUT.out.1] at hrv
                obtain ⟨ys, hys, -⟩ := hrv
                rw [List.length_take, Nat.min_eq_left (by omega)] at hys
                obtain ⟨ro, rc, rfl, -, -, -, -⟩ := own_form hys
                have G5 := Lib.hid (HBEL.out.trans (g5.mono HBEL.out.size))
                have HA5 := Lib.hid (own_below HA.out g5)
                have hcy5 := (g5.cell (p := ⟨ga, k, none⟩) hgaw).trans hcy
                have hfz5 : w5.frozen? ⟨ga, k, none⟩ = false := by
                  obtain ⟨_, _, e, -, -, -, -, hf⟩ := (OwnS.of_own HA5.out HR.out).at_ (k := k) hkl
                  cases e
                  exact hf
                obtain ⟨D, hD⟩ : ∃ D, k - F = D := ⟨_, rfl⟩
                have hkF : (k : Int) - F = D := by omega
                have hwD := IntWalk.i64_in ((k : Int) - F) (by omega)
                have hwF := IntWalk.i64_in ((F : Int) + 1) (by omega)
                have hFt : ((F : Int) + 1).toNat = F + 1 := by omega
                have hF0 : 0 ≤ (F : Int) + 1 := by omega
                have hF1 : D < 3 ∨ (F + 1 < L.length ∧ w5.cell? ⟨ga, F + 1, none⟩ = some (.int .u8 (L.getD (F + 1) 0))) := by
                  rcases Nat.lt_or_ge D 3 with h | h
                  · exact .inl h
                  · have hl1 : F + 1 < L.length := by omega
                    obtain ⟨_, e, -, -, hc⟩ := own_at' HA5.out (show (L.map (Value.int .u8))[F + 1]? = some (.int .u8 (L.getD (F + 1) 0)) by rw [List.getElem?_map, List.getD_eq_getElem?_getD, List.getElem?_eq_getElem hl1]; rfl)
                    cases e
                    exact .inr ⟨hl1, hc⟩
                obtain ⟨c, hc⟩ : ∃ c, L.getD (F + 1) 0 = c := ⟨_, rfl⟩
                rw [hc] at hF1
                have HCC := Lib.hid hc
                have HDD := Lib.hid hD
                clear hys g5 hc hD hcy
                have hbody : (D < 3) ∨ (6 ≤ D) ∨ (3 ≤ D ∧ D < 6 ∧ c < 128) ∨ (3 ≤ D ∧ D < 6 ∧ ¬ c < 128) := by omega
                have HTURN := Lib.hid (fun z hz hne hb => torn_turn (z := z) HCZ.out (by rw [HLL.out]; exact HR.out) HX.out (by rw [HFF.out]; exact HFK) (by rw [HEE.out]; omega) hb (by rw [HLL.out]; exact HY.out) hz hne)
                rcases hbody with hb1 | hb1 | ⟨hb1, hb2, hb3⟩ | ⟨hb1, hb2, hb3⟩
                · have e6 : decide ((6 : Int) ≤ (D : Int)) = false := by rw [decide_eq_false_iff_not]; omega
                  have e3 : decide ((3 : Int) ≤ (D : Int)) = false := by rw [decide_eq_false_iff_not]; omega
                  have hF2 : True := trivial
                  clear hF1 hb1
                  by_cases hz : by_ = 0
                  · subst hz
                    go_wp2_with fail
                    go_ret
                    exact ⟨rfl, G5.out⟩
                  · have q : (by_ == 0) = false := beq_eq_false_iff_ne.2 hz
                    go_wp2_with fail
                    go_ret
                    exact ⟨rfl, G5.out⟩
                · have e6 : decide ((6 : Int) ≤ (D : Int)) = true := by rw [decide_eq_true_iff]; omega
                  clear hF1
                  by_cases hz : by_ = 0
                  · subst hz
                    go_wp2_with fail
                    go_ret
                    exact ⟨rfl, G5.out⟩
                  · have q : (by_ == 0) = false := beq_eq_false_iff_ne.2 hz
                    go_wp2_with fail
                    have hst := OwnS.stored (OwnS.of_own HA5.out HR.out) (k := k) (x := bits .xor .u8 y by_) hkl (turn_rng _ _)
                    have HST := Lib.hid hst
                    have hyr := HR.out y (List.mem_of_getElem? HY.out)
                    have hT := HTURN.out (bits .xor .u8 y by_) (turn_rng _ _) (turn_ne hyr hby hz) (.inl (by rw [HFF.out]; have := HDD.out; omega))
                    rw [HLL.out] at hT
                    have HTT := Lib.hid hT
                    have G6 := Lib.hid (G5.out.setCell (p := ⟨ga, k, none⟩) hga (.int .u8 (bits .xor .u8 y by_)))
                    clear hst hT
                    refine (replay_any _ (L.set k (bits .xor .u8 y by_)) _ HST.out.isB (by rw [List.length_set]; omega)).mono ?_
                    unfold RepPost
                    rw [HTT.out]
                    rintro e w7 ⟨sv, rfl, hsv, g7⟩
                    obtain ⟨zs, hzs, -⟩ := hsv
                    rw [List.length_take, Nat.min_eq_left (by omega)] at hzs
                    obtain ⟨so, sc, rfl, -, -, -, -⟩ := own_form hzs
                    have G7 := Lib.hid (G6.out.trans (g7.mono (show w.heap.size ≤ (w5.setCell _ _).heap.size by have := G5.out.size; simpa using this)))
                    clear hzs g7
                    (try simp only [HFF.out])
                    go_wp2_with fail
                    go_ret
                    exact ⟨rfl, G7.out⟩
                · have e6 : decide ((6 : Int) ≤ (D : Int)) = false := by rw [decide_eq_false_iff_not]; omega
                  have e3 : decide ((3 : Int) ≤ (D : Int)) = true := by rw [decide_eq_true_iff]; omega
                  have e7 : decide (c < 128) = true := decide_eq_true hb3
                  obtain ⟨hl1, hcc⟩ := hF1.resolve_left (by omega)
                  clear hF1
                  by_cases hz : by_ = 0
                  · subst hz
                    go_wp2_with fail
                    go_ret
                    exact ⟨rfl, G5.out⟩
                  · have q : (by_ == 0) = false := beq_eq_false_iff_ne.2 hz
                    go_wp2_with fail
                    have hst := OwnS.stored (OwnS.of_own HA5.out HR.out) (k := k) (x := bits .xor .u8 y by_) hkl (turn_rng _ _)
                    have HST := Lib.hid hst
                    have hyr := HR.out y (List.mem_of_getElem? HY.out)
                    have hT := HTURN.out (bits .xor .u8 y by_) (turn_rng _ _) (turn_ne hyr hby hz) (.inr ⟨by rw [HFF.out]; have := HDD.out; omega, by rw [HFF.out, HLL.out, HCC.out]; exact hb3⟩)
                    rw [HLL.out] at hT
                    have HTT := Lib.hid hT
                    have G6 := Lib.hid (G5.out.setCell (p := ⟨ga, k, none⟩) hga (.int .u8 (bits .xor .u8 y by_)))
                    clear hst hT
                    refine (replay_any _ (L.set k (bits .xor .u8 y by_)) _ HST.out.isB (by rw [List.length_set]; omega)).mono ?_
                    unfold RepPost
                    rw [HTT.out]
                    rintro e w7 ⟨sv, rfl, hsv, g7⟩
                    obtain ⟨zs, hzs, -⟩ := hsv
                    rw [List.length_take, Nat.min_eq_left (by omega)] at hzs
                    obtain ⟨so, sc, rfl, -, -, -, -⟩ := own_form hzs
                    have G7 := Lib.hid (G6.out.trans (g7.mono (show w.heap.size ≤ (w5.setCell _ _).heap.size by have := G5.out.size; simpa using this)))
                    clear hzs g7
                    (try simp only [HFF.out])
                    go_wp2_with fail
                    go_ret
                    exact ⟨rfl, G7.out⟩
                · have e6 : decide ((6 : Int) ≤ (D : Int)) = false := by rw [decide_eq_false_iff_not]; omega
                  have e3 : decide ((3 : Int) ≤ (D : Int)) = true := by rw [decide_eq_true_iff]; omega
                  have e7 : decide (c < 128) = false := decide_eq_false hb3
                  obtain ⟨hl1, hcc⟩ := hF1.resolve_left (by omega)
                  clear hF1
                  by_cases hz : by_ = 0
                  · subst hz
                    go_wp2_with fail
                    go_ret
                    exact ⟨rfl, G5.out⟩
                  · have q : (by_ == 0) = false := beq_eq_false_iff_ne.2 hz
                    go_wp2_with fail
                    go_ret
                    exact ⟨rfl, G5.out⟩)
end Wal
end Go.Proofs.Ytlfelpbcnpjneaa
