/- wal: the document's body. -/
import Derived.Test.YtlfelpbcnpjneaaWalRef
import Derived.Test.YtlfelpbcnpjneaaCodecTx
namespace Go.Proofs.Ytlfelpbcnpjneaa
open Go.RowKit
namespace Wal
open Codec
theorem isB_lit1 (w : World) (o : Obj) (x : Int) (hx : 0 ≤ x ∧ x ≤ 255) (e : TypeId) : IsB ((w.alloc o).alloc (.cells #[.int .u8 x] e)) (.slice (some ⟨w.heap.size + 1, 0, none⟩) 1 1) [x] := by
  have h := isB_const (w.alloc o) [x] (Rng.cons hx Rng.nil) (by simp) e (0, 0)
  have e : (w.alloc o).heap.size = w.heap.size + 1 := by simp
  rw [e] at h
  exact h
def BodyPost (seq : Nat) (l : List Opr) (w : World) (e : Ending) (w' : World) : Prop :=
  ∃ v, e = .returned v ∧ w'.ownsRow w.heap.size 5 1 v (bodyB seq l).length ((bodyB seq l).map (Value.int .u8)) ∧ Below w.heap.size w w'
/-- where a row lies behind an append: not in this block, and not ahead of that one -/
theorem nb_of {v v' : Value} {s b W : Nat} (hb : v'.ownBlock = v.ownBlock ∨ v'.ownBlock = some s) (h : v.ownBlock ≠ some b ∧ ∀ i, v.ownBlock = some i → W ≤ i) (h1 : s ≠ b) (h2 : W ≤ s) : v'.ownBlock ≠ some b ∧ ∀ i, v'.ownBlock = some i → W ≤ i := by
  rcases hb with e | e
  · rw [e]; exact h
  · rw [e]
    exact ⟨fun h => h1 (Option.some.inj h), fun i h => by rw [← Option.some.inj h]; exact h2⟩
set_option maxRecDepth 100000 in
set_option maxHeartbeats 4000000 in
theorem body_any (seq : Nat) (hseq : seq < 18446744073709551616) (ov : Value) (l : List Opr) (w : World) (h : IsOps w ov l) (hl : l.length ≤ 256) (hall : ∀ x ∈ l, fitsB x = true) :
    Calls Try.prog 16 #[.agg #[.int .u64 seq, ov]] w (BodyPost seq l w) := by
  have hm := h.max
  obtain ⟨ao, cap, rfl, hnc, hcap, -⟩ := h.form
  have HB := Lib.hid h
  have HALL := Lib.hid hall
  have w1b := Lib.hid (bel_alloc (Below.refl _ w) (.cells #[.int .u64 seq, .slice ao l.length cap] 25))
  have s10 := numN_len10 hseq
  have n10 := numN_len10 (n := l.length) (by omega)
  obtain ⟨i0, hi0, hz0, hz1, hz2⟩ := info_parts infoU8
  have HI := Lib.hid hi0; have HZ0 := Lib.hid hz0; have HZ1 := Lib.hid hz1; have HZ2 := Lib.hid hz2
  clear hi0 hz0 hz1 hz2 h hall
  go_enter Try.func16, Try.ntmps16
  go_wp2_with fail
  have B0 : (w.alloc (.cells #[.int .u64 seq, .slice ao l.length cap] 25)).cell? ⟨w.heap.size, 0, none⟩ = some (.int .u64 seq) := by go_simp
  have B1 : (w.alloc (.cells #[.int .u64 seq, .slice ao l.length cap] 25)).cell? ⟨w.heap.size, 1, none⟩ = some (.slice ao l.length cap) := by go_simp
  have hzw : w.heap.size < (w.alloc (.cells #[.int .u64 seq, .slice ao l.length cap] 25)).heap.size := by simp
  have HBW := Lib.hid (HB.out.alloc opR_stays (.cells #[.int .u64 seq, .slice ao l.length cap] 25))
  clear HB
  generalize w.alloc (.cells #[.int .u64 seq, .slice ao l.length cap] 25) = W at *
  refine (rNumber_any seq _ hseq).mono ?_
  unfold RNumPost
  rintro e w2 ⟨sv, rfl, hsv, g2⟩
  have HS := Lib.hid hsv
  have G2 := Lib.hid g2
  have z2 := g2.size
  obtain ⟨so, scap, rfl, -, -, -, -⟩ := own_form hsv
  have K1 := (g2.cell (p := ⟨w.heap.size, 1, none⟩) hzw).trans B1
  clear hsv g2
  go_wp2_with fail
  refine (rNumber_any l.length _ (by omega)).mono ?_
  unfold RNumPost
  rintro e w3 ⟨nv, rfl, hnv, g3⟩
  have HS3 := Lib.hid (own_below HS.out g3)
  have HN3 := Lib.hid (IsB.of_own hnv (numN_rng _))
  have G3 := Lib.hid (bel_call G2.out g3)
  have z3 := G3.out.size
  obtain ⟨no, ncap, rfl, -, -, -, -⟩ := own_form hnv
  clear hnv g3
  go_wp2_with (at_builtin; refine wpList_append_bytes (w := w3) (base := W.heap.size) (.tmp 16) (.tmp 17) _ rfl rfl i0 _ Try.underlying28 HI.out HZ0.out HZ1.out HZ2.out rfl _ (numN seq) (numN l.length) rfl rfl HS3.out HN3.out (by omega) z3 ?_; intro v4 w4 hown4 hg4; have HO4 := Lib.hid hown4; have G4 := Lib.hid (G3.out.trans hg4); have K2 := (G4.out.cell (p := ⟨w.heap.size, 1, none⟩) hzw).trans B1; clear hown4 hg4)
  have hpl : (pref seq l 0).length = (numN seq).length + (numN l.length).length := by unfold pref; simp
  have HPL := Lib.hid hpl
  clear hpl K1 K2
  go_loopw [3, 5] (fun bv i wr => ∃ (k : Nat), k ≤ l.length ∧ i = .int .i64 k ∧ Hid (wr.ownsRow W.heap.size 5 1 bv (pref seq l k).length ((pref seq l k).map (Value.int .u8))) ∧ Hid (Below W.heap.size W wr)) (fun _ i _ => l.length - (intOf i).toNat)
  case atStart => exact ⟨0, by omega, rfl, by rw [HPL.out, show pref seq l 0 = numN seq ++ numN l.length from by simp [pref]]; exact HO4.out, G4.out⟩
  case round =>
    obtain ⟨k, hk, rfl, hown, hbel⟩ := hrel
    have hfit : ∀ x ∈ l.take k, fitsB x = true := fun x hx => HALL.out x (List.mem_of_mem_take hx)
    have hpk : (pref seq l k).length ≤ 20 + k * 65836 := by
      have h1 := flat_len hfit
      unfold pref
      simp only [List.length_append]
      rw [List.length_take] at h1
      have h2 : min k l.length = k := by omega
      rw [h2] at h1
      omega
    have K1 := (hbel.out.cell (p := ⟨w.heap.size, 1, none⟩) hzw).trans B1
    clear hfit
    obtain ⟨bo, bcap, rfl, -, -, -, -⟩ := own_form hown.out
    by_cases hlt : k < l.length
    · obtain ⟨b, o, x, kv, vv, hao, hbb, hx, c0', c1', c2', hkv, hvv⟩ := IsOps.at3 HBW.out hlt
      subst hao
      obtain ⟨ko, kcap, rfl, -, -, -⟩ := hkv.out.form
      obtain ⟨vo, vcap, rfl, -, -, -⟩ := hvv.out.form
      have hf := HALL.out _ (List.mem_of_getElem? hx.out)
      obtain ⟨d, kl, vl⟩ := x
      simp only at c0' c1' c2' hkv hvv
      have c0 := (hbel.out.cell (p := ⟨b, o + k * 3, none⟩) hbb).trans c0'
      have c1 := (hbel.out.cell (p := ⟨b, o + k * 3 + 1, none⟩) hbb).trans c1'
      have c2 := (hbel.out.cell (p := ⟨b, o + k * 3 + 2, none⟩) hbb).trans c2'
      have GOW := Lib.hid (bel_alloc hbel.out (.cells #[.bool d, .slice ko kl.length kcap, .slice vo vl.length vcap] 43))
      have HOW := Lib.hid (hown.out.alloc (.cells #[.bool d, .slice ko kl.length kcap, .slice vo vl.length vcap] 43))
      have hnb : (Value.slice bo (pref seq l k).length bcap).ownBlock ≠ some wr.heap.size ∧ ∀ i, (Value.slice bo (pref seq l k).length bcap).ownBlock = some i → W.heap.size ≤ i := ⟨fun hi => by have := (hown.out.lt _ hi).2; omega, fun i hi => (hown.out.lt i hi).1⟩
      have HNB := Lib.hid hnb
      have zW := hbel.out.size
      obtain ⟨f1, f2, f3, -⟩ := fits_true hf
      have hsn := pref_snoc (seq := seq) hx.out
      have HFS := Lib.hid hsn
      have htk : (textB kl).length ≤ 266 := by unfold textB; rw [List.length_append]; have := numN_len10 (n := kl.length) (by omega); omega
      have HTX := Lib.hid (show numN kl.length ++ kl = textB kl from rfl)
      have HTV := Lib.hid (show numN vl.length ++ vl = textB vl from rfl)
      have D0 : (wr.alloc (.cells #[.bool d, .slice ko kl.length kcap, .slice vo vl.length vcap] 43)).cell? ⟨wr.heap.size, 0, none⟩ = some (.bool d) := by go_simp
      have D1 : (wr.alloc (.cells #[.bool d, .slice ko kl.length kcap, .slice vo vl.length vcap] 43)).cell? ⟨wr.heap.size, 1, none⟩ = some (.slice ko kl.length kcap) := by go_simp
      have D2 : (wr.alloc (.cells #[.bool d, .slice ko kl.length kcap, .slice vo vl.length vcap] 43)).cell? ⟨wr.heap.size, 2, none⟩ = some (.slice vo vl.length vcap) := by go_simp
      have D00 := Lib.hid D0; have D10 := Lib.hid D1; have D20 := Lib.hid D2
      clear c0' c1' c2' hnb hf hsn D0 D1 D2
      cases d
      · go_wp2_with (at_builtin; refine wpList_append_bytes' (v := .slice bo (pref seq l k).length bcap) (w := (wr.alloc (.cells #[.bool false, .slice ko kl.length kcap, .slice vo vl.length vcap] 43)).alloc (.cells #[.int .u8 0] 5)) (base := W.heap.size) (.tmp 33) (.tmp 35) _ rfl rfl i0 _ Try.underlying28 HI.out HZ0.out HZ1.out HZ2.out rfl _ (pref seq l k) [0] rfl rfl (HOW.out.alloc (.cells #[.int .u8 0] 5)) (isB_lit1 wr (.cells #[.bool false, .slice ko kl.length kcap, .slice vo vl.length vcap] 43) 0 (by decide) 5) (by simp only [List.length_cons, List.length_nil]; omega) (by simp; omega) ?_; intro v5 w5 ho hg hb; have HO5 := Lib.hid ho; have G5 := Lib.hid (bel_row (bel_alloc GOW.out (.cells #[.int .u8 0] 5)) hg HNB.out.2); have D05 : w5.cell? ⟨wr.heap.size, 0, none⟩ = some (.bool false) := (cell_grown hg (by simp; omega) HNB.out.1).trans ((World.cell?_alloc_lt _ _ _ (by simp)).trans D00.out); have D15 : w5.cell? ⟨wr.heap.size, 1, none⟩ = some (.slice ko kl.length kcap) := (cell_grown hg (by simp; omega) HNB.out.1).trans ((World.cell?_alloc_lt _ _ _ (by simp)).trans D10.out); have D25 : w5.cell? ⟨wr.heap.size, 2, none⟩ = some (.slice vo vl.length vcap) := (cell_grown hg (by simp; omega) HNB.out.1).trans ((World.cell?_alloc_lt _ _ _ (by simp)).trans D20.out); have N5 := Lib.hid (nb_of hb HNB.out (by simp; omega) (by simp; omega)); have z5 := hg.size; (try simp at z5); clear ho hg hb)
        refine (rText_ok (.slice ko kl.length kcap) kl w5 (hkv.out.below G5.out) (by omega)).mono ?_
        unfold TextPost
        rw [HTX.out]
        rintro e w6 ⟨tv, rfl, htv, g6⟩
        have HT6 := Lib.hid (IsB.of_own htv (textB_rng hkv.out.rng))
        have HO6 := Lib.hid (own_below HO5.out g6)
        have G6 := Lib.hid (bel_call G5.out g6)
        have D06 : w6.cell? ⟨wr.heap.size, 0, none⟩ = some (.bool false) := (g6.cell (p := ⟨wr.heap.size, 0, none⟩) (by simp only; omega)).trans D05; have D16 : w6.cell? ⟨wr.heap.size, 1, none⟩ = some (.slice ko kl.length kcap) := (g6.cell (p := ⟨wr.heap.size, 1, none⟩) (by simp only; omega)).trans D15; have D26 : w6.cell? ⟨wr.heap.size, 2, none⟩ = some (.slice vo vl.length vcap) := (g6.cell (p := ⟨wr.heap.size, 2, none⟩) (by simp only; omega)).trans D25
        have z6 := g6.size
        obtain ⟨to, tcap, rfl, -, -, -, -⟩ := own_form htv
        clear htv g6
        go_wp2_with (at_builtin; refine wpList_append_bytes' (v := v5) (w := w6) (base := W.heap.size) (.tmp 43) (.tmp 44) _ rfl rfl i0 _ Try.underlying28 HI.out HZ0.out HZ1.out HZ2.out rfl _ (pref seq l k ++ [0]) (textB kl) rfl rfl HO6.out HT6.out (by simp only [List.length_cons, List.length_nil]; omega) (by omega) ?_; intro v7 w7 ho hg hb; have HO7 := Lib.hid ho; have G7 := Lib.hid (bel_row G6.out hg N5.out.2); have D07 : w7.cell? ⟨wr.heap.size, 0, none⟩ = some (.bool false) := (cell_grown hg (by omega) N5.out.1).trans D06; have D17 : w7.cell? ⟨wr.heap.size, 1, none⟩ = some (.slice ko kl.length kcap) := (cell_grown hg (by omega) N5.out.1).trans D16; have D27 : w7.cell? ⟨wr.heap.size, 2, none⟩ = some (.slice vo vl.length vcap) := (cell_grown hg (by omega) N5.out.1).trans D26; have N7 := Lib.hid (nb_of hb N5.out (by omega) (by omega)); have z7 := hg.size; clear ho hg hb)
        refine (rText_ok (.slice vo vl.length vcap) vl w7 (hvv.out.below G7.out) (by omega)).mono ?_
        unfold TextPost
        rw [HTV.out]
        rintro e w8 ⟨uv, rfl, huv, g8⟩
        have HT8 := Lib.hid (IsB.of_own huv (textB_rng hvv.out.rng))
        have HO8 := Lib.hid (own_below HO7.out g8)
        have G8 := Lib.hid (bel_call G7.out g8)
        have z8 := g8.size
        obtain ⟨uo, ucap, rfl, -, -, -, -⟩ := own_form huv
        clear huv g8
        have htv : (textB vl).length ≤ 65546 := by unfold textB; rw [List.length_append]; have := numN_len10 (n := vl.length) (by omega); omega
        go_wp2_with (at_builtin; refine wpList_append_bytes' (v := v7) (w := w8) (base := W.heap.size) (.tmp 55) (.tmp 56) _ rfl rfl i0 _ Try.underlying28 HI.out HZ0.out HZ1.out HZ2.out rfl _ (pref seq l k ++ [0] ++ textB kl) (textB vl) rfl rfl HO8.out HT8.out (by simp only [List.length_cons, List.length_nil]; omega) (by omega) ?_; intro v9 w9 ho hg hb; have HO9 := Lib.hid ho; have G9 := Lib.hid (bel_row G8.out hg N7.out.2); clear ho hg hb)
        go_roundw
        case rel =>
          have e : pref seq l (k + 1) = pref seq l k ++ [0] ++ textB kl ++ textB vl := by rw [HFS.out]; simp [opB]
          exact ⟨k + 1, by omega, by go_num, by rw [e, List.length_append, List.length_append, List.length_append]; exact HO9.out, G9.out⟩
        case measure => simp [intOf]; omega
      · go_wp2_with (at_builtin; refine wpList_append_bytes' (v := .slice bo (pref seq l k).length bcap) (w := (wr.alloc (.cells #[.bool true, .slice ko kl.length kcap, .slice vo vl.length vcap] 43)).alloc (.cells #[.int .u8 1] 5)) (base := W.heap.size) (.tmp 33) (.tmp 35) _ rfl rfl i0 _ Try.underlying28 HI.out HZ0.out HZ1.out HZ2.out rfl _ (pref seq l k) [1] rfl rfl (HOW.out.alloc (.cells #[.int .u8 1] 5)) (isB_lit1 wr (.cells #[.bool true, .slice ko kl.length kcap, .slice vo vl.length vcap] 43) 1 (by decide) 5) (by simp only [List.length_cons, List.length_nil]; omega) (by simp; omega) ?_; intro v5 w5 ho hg hb; have HO5 := Lib.hid ho; have G5 := Lib.hid (bel_row (bel_alloc GOW.out (.cells #[.int .u8 1] 5)) hg HNB.out.2); have D05 : w5.cell? ⟨wr.heap.size, 0, none⟩ = some (.bool true) := (cell_grown hg (by simp; omega) HNB.out.1).trans ((World.cell?_alloc_lt _ _ _ (by simp)).trans D00.out); have D15 : w5.cell? ⟨wr.heap.size, 1, none⟩ = some (.slice ko kl.length kcap) := (cell_grown hg (by simp; omega) HNB.out.1).trans ((World.cell?_alloc_lt _ _ _ (by simp)).trans D10.out); have D25 : w5.cell? ⟨wr.heap.size, 2, none⟩ = some (.slice vo vl.length vcap) := (cell_grown hg (by simp; omega) HNB.out.1).trans ((World.cell?_alloc_lt _ _ _ (by simp)).trans D20.out); have N5 := Lib.hid (nb_of hb HNB.out (by simp; omega) (by simp; omega)); have z5 := hg.size; (try simp at z5); clear ho hg hb)
        refine (rText_ok (.slice ko kl.length kcap) kl w5 (hkv.out.below G5.out) (by omega)).mono ?_
        unfold TextPost
        rw [HTX.out]
        rintro e w6 ⟨tv, rfl, htv, g6⟩
        have HT6 := Lib.hid (IsB.of_own htv (textB_rng hkv.out.rng))
        have HO6 := Lib.hid (own_below HO5.out g6)
        have G6 := Lib.hid (bel_call G5.out g6)
        have D06 : w6.cell? ⟨wr.heap.size, 0, none⟩ = some (.bool true) := (g6.cell (p := ⟨wr.heap.size, 0, none⟩) (by simp only; omega)).trans D05; have D16 : w6.cell? ⟨wr.heap.size, 1, none⟩ = some (.slice ko kl.length kcap) := (g6.cell (p := ⟨wr.heap.size, 1, none⟩) (by simp only; omega)).trans D15; have D26 : w6.cell? ⟨wr.heap.size, 2, none⟩ = some (.slice vo vl.length vcap) := (g6.cell (p := ⟨wr.heap.size, 2, none⟩) (by simp only; omega)).trans D25
        have z6 := g6.size
        obtain ⟨to, tcap, rfl, -, -, -, -⟩ := own_form htv
        clear htv g6
        go_wp2_with (at_builtin; refine wpList_append_bytes' (v := v5) (w := w6) (base := W.heap.size) (.tmp 43) (.tmp 44) _ rfl rfl i0 _ Try.underlying28 HI.out HZ0.out HZ1.out HZ2.out rfl _ (pref seq l k ++ [1]) (textB kl) rfl rfl HO6.out HT6.out (by simp only [List.length_cons, List.length_nil]; omega) (by omega) ?_; intro v7 w7 ho hg hb; have HO7 := Lib.hid ho; have G7 := Lib.hid (bel_row G6.out hg N5.out.2); have D07 : w7.cell? ⟨wr.heap.size, 0, none⟩ = some (.bool true) := (cell_grown hg (by omega) N5.out.1).trans D06; have D17 : w7.cell? ⟨wr.heap.size, 1, none⟩ = some (.slice ko kl.length kcap) := (cell_grown hg (by omega) N5.out.1).trans D16; have D27 : w7.cell? ⟨wr.heap.size, 2, none⟩ = some (.slice vo vl.length vcap) := (cell_grown hg (by omega) N5.out.1).trans D26; have N7 := Lib.hid (nb_of hb N5.out (by omega) (by omega)); have z7 := hg.size; clear ho hg hb)
        go_roundw
        case rel =>
          have e : pref seq l (k + 1) = pref seq l k ++ [1] ++ textB kl := by rw [HFS.out]; simp [opB]
          exact ⟨k + 1, by omega, by go_num, by rw [e, List.length_append, List.length_append]; exact HO7.out, G7.out⟩
        case measure => simp [intOf]; omega
    · have hkl : k = l.length := by omega
      subst hkl
      have HP := Lib.hid (pref_all seq l)
      have hown2 := hown.out
      rw [HP.out] at hown2
      have HO2 := Lib.hid hown2
      have GE := Lib.hid (w1b.out.trans (hbel.out.mono (by omega)))
      clear hown2
      go_wp2_with fail
      go_ret
      exact ⟨_, rfl, own_mono (by have := HO2.out; rw [HP.out]; exact this) (by omega), GE.out⟩
end Wal
end Go.Proofs.Ytlfelpbcnpjneaa
