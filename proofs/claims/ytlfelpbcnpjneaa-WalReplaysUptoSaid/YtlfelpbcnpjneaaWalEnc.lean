/- wal: Encode. -/
import Derived.Test.YtlfelpbcnpjneaaWalFits
import Derived.Test.YtlfelpbcnpjneaaKit
import Derived.Test.YtlfelpbcnpjneaaWalNum
import Derived.Test.YtlfelpbcnpjneaaCodecFr
namespace Go.Proofs.Ytlfelpbcnpjneaa
open Go.RowKit
namespace Wal
open Codec
theorem bel_row {w0 w w' : World} {row : Option Nat} (h : Below w0.heap.size w0 w) (hg : w.grownBy w' row) (hr : ∀ k, row = some k → w0.heap.size ≤ k) : Below w0.heap.size w0 w' :=
  h.trans ((Below.refl _ w).grown hg h.size hr)
theorem cell_grown {W W' : World} {row : Option Nat} {b o : Nat} (h : W.grownBy W' row) (hlt : b < W.heap.size) (hne : row ≠ some b) : W'.cell? ⟨b, o, none⟩ = W.cell? ⟨b, o, none⟩ := by
  cases row with
  | none => exact (Below.cell ((Below.refl _ W).grown h (Nat.le_refl _) (fun k hk => by cases hk)) (p := ⟨b, o, none⟩) hlt)
  | some g => exact gb_cell h hlt (fun e => hne (by rw [e]))
def EncPost (seq : Nat) (l : List Opr) (w : World) (e : Ending) (w' : World) : Prop :=
  ∃ v, e = .returned (.tuple #[v, .int .i64 (encF seq l).2]) ∧ OwnS w' w.heap.size 5 v (encF seq l).1 ∧ Below w.heap.size w w'
theorem ret_enc {v : Value} {t : List Int × Int} {a : List Int} {b : Int} (h : t = (a, b)) : Ending.returned (.tuple #[v, .int .i64 b]) = .returned (.tuple #[v, .int .i64 t.2]) := by subst h; rfl
theorem enc_bad {seq : Nat} {l : List Opr} {w w' : World} {x : Int} (h : encF seq l = ([], x)) (hb : Below w.heap.size w w') : EncPost seq l w (.returned (.tuple #[.slice none 0 0, .int .i64 x])) w' :=
  ⟨_, ret_enc h, by rw [h]; exact ⟨Rng.nil, .inl ⟨rfl, rfl⟩⟩, hb⟩
def pref (seq : Nat) (l : List Opr) (k : Nat) : List Int := numN seq ++ numN l.length ++ ((l.take k).map opB).flatten
theorem pref_all (seq : Nat) (l : List Opr) : pref seq l l.length = bodyB seq l := by unfold pref bodyB; rw [List.take_length]
theorem pref_snoc {seq : Nat} {l : List Opr} {k : Nat} {x : Opr} (h : l[k]? = some x) : pref seq l (k + 1) = pref seq l k ++ opB x := by
  unfold pref; rw [flat_snoc' h]; simp only [List.append_assoc]
set_option maxRecDepth 100000 in
set_option maxHeartbeats 4000000 in
theorem encode_any (seq : Nat) (hseq : seq < 18446744073709551616) (ov : Value) (l : List Opr) (w : World) (h : IsOps w ov l) : Calls Try.prog 9 #[.agg #[.int .u64 seq, ov]] w (EncPost seq l w) := by
  have hm := h.max
  obtain ⟨ao, cap, rfl, hnc, hcap, -⟩ := h.form
  have HB := Lib.hid h
  have hF : encF seq l = if l.length < 1 ∨ 256 < l.length ∨ l.all fitsB = false then ([], 60)
    else if seq < 1 ∨ 4611686018427387904 < seq + l.length then ([], 61)
    else if 1048576 < (bodyB seq l).length then ([], 62)
    else (frameF 66 (bodyB seq l), 0) := rfl
  have w1b := Lib.hid (bel_alloc (Below.refl _ w) (.cells #[.int .u64 seq, .slice ao l.length cap] 25))
  by_cases hlen : l.length < 1 ∨ 256 < l.length
  · rw [if_pos (by rcases hlen with h | h; exact .inl h; exact .inr (.inl h))] at hF
    have HF := Lib.hid hF
    have q : (((l.length : Int) == 0) || decide (256 < (l.length : Int))) = true := by
      rw [Bool.or_eq_true, beq_iff_eq, decide_eq_true_iff]; omega
    clear hF h
    by_cases h0 : l.length < 1
    · have h00 : l.length = 0 := by omega
      clear q hlen
      go_enter Try.func9, Try.ntmps9
      go_wp2_with fail
      go_ret2
      exact enc_bad HF.out (by repeat' (first | (with_reducible exact Below.refl _ _) | (with_reducible assumption) | (with_reducible refine Below.drew ?_) | (with_reducible refine below_drewN ?_ _) | (with_reducible refine bel_alloc ?_ _) | (with_reducible refine Below.setCell ?_ ?_ _) | (with_reducible refine bel_call ?_ (by assumption)) | (simp <;> omega)))
    · have q0 : ((l.length : Int) == 0) = false := beq_eq_false_iff_ne.2 (by omega)
      have q1 : decide (256 < (l.length : Int)) = true := decide_eq_true (by omega)
      clear q
      go_enter Try.func9, Try.ntmps9
      go_wp2_with fail
      go_ret2
      exact enc_bad HF.out (by repeat' (first | (with_reducible exact Below.refl _ _) | (with_reducible assumption) | (with_reducible refine Below.drew ?_) | (with_reducible refine below_drewN ?_ _) | (with_reducible refine bel_alloc ?_ _) | (with_reducible refine Below.setCell ?_ ?_ _) | (with_reducible refine bel_call ?_ (by assumption)) | (simp <;> omega)))
  · have l1 : 1 ≤ l.length := by omega
    have l2 : l.length ≤ 256 := by omega
    have q0 : ((l.length : Int) == 0) = false := beq_eq_false_iff_ne.2 (by omega)
    have s10 := numN_len10 hseq
    have n10 := numN_len10 (n := l.length) (by omega)
    obtain ⟨i0, hi0, hz0, hz1, hz2⟩ := info_parts infoU8
    have HI := Lib.hid hi0; have HZ0 := Lib.hid hz0; have HZ1 := Lib.hid hz1; have HZ2 := Lib.hid hz2
    have HFF := Lib.hid hF
    clear hi0 hz0 hz1 hz2 h hlen hF
    go_enter Try.func9, Try.ntmps9
    go_wp2_with fail
    have B0 : (w.alloc (.cells #[.int .u64 seq, .slice ao l.length cap] 25)).cell? ⟨w.heap.size, 0, none⟩ = some (.int .u64 seq) := by go_simp
    have B1 : (w.alloc (.cells #[.int .u64 seq, .slice ao l.length cap] 25)).cell? ⟨w.heap.size, 1, none⟩ = some (.slice ao l.length cap) := by go_simp
    have hzw : w.heap.size < (w.alloc (.cells #[.int .u64 seq, .slice ao l.length cap] 25)).heap.size := by simp
    have HBW := Lib.hid (HB.out.alloc opR_stays (.cells #[.int .u64 seq, .slice ao l.length cap] 25))
    clear HB
    generalize w.alloc (.cells #[.int .u64 seq, .slice ao l.length cap] 25) = W at *
    refine (number_clip seq _ hseq).mono ?_
    unfold NumCPost
    rintro e w2 ⟨so, rfl, hsv, g2⟩
    have HS := Lib.hid hsv
    have G2 := Lib.hid g2
    have z2 := g2.size
    have K1 := (g2.cell (p := ⟨w.heap.size, 1, none⟩) hzw).trans B1
    clear hsv g2
    go_wp2_with fail
    refine (number_clip l.length _ (by omega)).mono ?_
    unfold NumCPost
    rintro e w3 ⟨no, rfl, hnv, g3⟩
    have HS3 := Lib.hid (HS.out.below g3)
    have HN3 := Lib.hid hnv.isB
    have G3 := Lib.hid (bel_call G2.out g3)
    have z3 := G3.out.size
    have hnp := numN_pos l.length
    clear hnv g3
    go_wp2_with (at_builtin; refine wpList_append_clip (w := w3) (.tmp 20) (.tmp 22) _ rfl rfl i0 Try.underlying28 HI.out HZ0.out HZ1.out HZ2.out _ rfl rfl HS3.out HN3.out hnp (by omega) ?_; intro v4 w4 hown4 hg4; have HO4 := Lib.hid (own_mono hown4 z3); have G4 := Lib.hid (bel_row G3.out hg4 (fun k hk => by cases hk)); have K2 := (G4.out.cell (p := ⟨w.heap.size, 1, none⟩) hzw).trans B1; clear hown4 hg4)
    have hpl : (pref seq l 0).length = (numN seq).length + (numN l.length).length := by unfold pref; simp
    have HPL := Lib.hid hpl
    clear hpl
    go_loopw [5, 27] (fun bv i wr => ∃ (k : Nat), k ≤ l.length ∧ i = .int .i64 k ∧ Hid (∀ x ∈ l.take k, fitsB x = true) ∧ Hid (wr.ownsRow W.heap.size 5 1 bv (pref seq l k).length ((pref seq l k).map (Value.int .u8))) ∧ Hid (Below W.heap.size W wr)) (fun _ i _ => l.length - (intOf i).toNat)
    case atStart => exact ⟨0, by omega, rfl, fun x hx => by simp at hx, by rw [HPL.out, show pref seq l 0 = numN seq ++ numN l.length from by simp [pref]]; exact HO4.out, G4.out⟩
    case round =>
      obtain ⟨k, hk, rfl, hfit, hown, hbel⟩ := hrel
      have hpk : (pref seq l k).length ≤ 20 + k * 65836 := by
        have h1 := flat_len hfit.out
        unfold pref
        simp only [List.length_append]
        rw [List.length_take] at h1
        have h2 : min k l.length = k := by omega
        rw [h2] at h1
        omega
      by_cases hlt : k < l.length
      · obtain ⟨b, o, x, kv, vv, hao, hbb, hx, c0', c1', c2', hkv, hvv⟩ := IsOps.at3 HBW.out hlt
        subst hao
        obtain ⟨ko, kcap, rfl, -, -, -⟩ := hkv.out.form
        obtain ⟨vo, vcap, rfl, -, -, -⟩ := hvv.out.form
        obtain ⟨d, kl, vl⟩ := x
        simp only at c0' c1' c2' hkv hvv
        have c0 := (hbel.out.cell (p := ⟨b, o + k * 3, none⟩) hbb).trans c0'
        have c1 := (hbel.out.cell (p := ⟨b, o + k * 3 + 1, none⟩) hbb).trans c1'
        have c2 := (hbel.out.cell (p := ⟨b, o + k * 3 + 2, none⟩) hbb).trans c2'
        have GO := Lib.hid (bel_alloc (Below.refl _ wr) (.cells #[.bool d, .slice ko kl.length kcap, .slice vo vl.length vcap] 43))
        have GOW := Lib.hid (bel_alloc hbel.out (.cells #[.bool d, .slice ko kl.length kcap, .slice vo vl.length vcap] 43))
        obtain ⟨bo, bcap, rfl, -, -, -, -⟩ := own_form hown.out
        have hnb : ∀ i, (Value.slice bo (pref seq l k).length bcap).ownBlock = some i → W.heap.size ≤ i ∧ i < wr.heap.size := fun i hi => hown.out.lt i hi
        have HNB := Lib.hid hnb
        have zW := hbel.out.size
        clear c0' c1' c2' hnb
        by_cases hf : fitsB (d, kl, vl) = true
        · have hsn := pref_snoc (seq := seq) hx.out
          have hpk1 := opB_len hf
          have hkv65 : kl.length ≤ 65536 ∧ vl.length ≤ 65536 := by
            unfold fitsB at hf
            simp only [Bool.and_eq_true, decide_eq_true_eq] at hf
            omega
          obtain ⟨kl65, vl65⟩ := hkv65
          go_wp2_with fail
          refine (fits_any _ _ (d, kl, vl) _ (hkv.out.below GOW.out) (hvv.out.below GOW.out)).mono ?_
          rw [hf]
          rintro e w5 ⟨rfl, g5⟩
          have D0 := (g5.cell (p := ⟨wr.heap.size, 0, none⟩) (by simp)).trans (show (wr.alloc (.cells #[.bool d, .slice ko kl.length kcap, .slice vo vl.length vcap] 43)).cell? ⟨wr.heap.size, 0, none⟩ = some (.bool d) by go_simp)
          have D1 := (g5.cell (p := ⟨wr.heap.size, 1, none⟩) (by simp)).trans (show (wr.alloc (.cells #[.bool d, .slice ko kl.length kcap, .slice vo vl.length vcap] 43)).cell? ⟨wr.heap.size, 1, none⟩ = some (.slice ko kl.length kcap) by go_simp)
          have D2 := (g5.cell (p := ⟨wr.heap.size, 2, none⟩) (by simp)).trans (show (wr.alloc (.cells #[.bool d, .slice ko kl.length kcap, .slice vo vl.length vcap] 43)).cell? ⟨wr.heap.size, 2, none⟩ = some (.slice vo vl.length vcap) by go_simp)
          have z5 : wr.heap.size < w5.heap.size := by have := g5.size; simp at this; omega
          have G5 := Lib.hid (bel_call GOW.out g5)
          have HO5 := Lib.hid (own_below (own_below hown.out GO.out) g5)
          have HFS := Lib.hid hsn
          have HFT : Hid (∀ y ∈ l.take (k + 1), fitsB y = true) := Lib.hid (by
            rw [take_snoc hx.out]
            intro y hy
            rcases List.mem_append.1 hy with h | h
            · exact hfit.out y h
            · rw [List.mem_singleton.1 h]; exact hf)
          clear g5 c0 c1 c2 hf hsn
          cases d
          · go_wp2_with fail
            go_region_held3 (fun w' => w'.cell? ⟨wr.heap.size, 1, none⟩ = some (.slice ko kl.length kcap) ∧ w'.cell? ⟨wr.heap.size, 2, none⟩ = some (.slice vo vl.length vcap)) (first | exact ⟨by assumption, by assumption⟩ | go_keep) (first
              | (refine step_of_list rfl ?_; refine wpList_append_bytes' (w := w5.drew.alloc (.cells #[.int .u8 0] 5)) (base := W.heap.size) (.tmp 42) (.tmp 43) _ rfl rfl i0 _ Try.underlying28 HI.out HZ0.out HZ1.out HZ2.out rfl _ (pref seq l k) [0] rfl rfl ((show World.ownsRow w5.drew _ _ _ _ _ _ from HO5.out).alloc _) (isB_const w5.drew [0] (Rng.cons (by decide) Rng.nil) (by simp) 5 (0, 0)) (by simp only [List.length_cons, List.length_nil]; omega) (by simp only [World.drew]; simp; omega) ?_; intro v6 w6 ho hg hb; refine list_done ?_; have HO6 := Lib.hid ho; have G6 := Lib.hid (bel_row (bel_alloc G5.out.drew (.cells #[.int .u8 0] 5)) hg (fun i hi => (HNB.out i hi).1)); have W6a : w6.cell? ⟨wr.heap.size, 1, none⟩ = some (.slice ko kl.length kcap) := (cell_grown hg (by simp only [World.drew]; simp; omega) (fun hi => by have := HNB.out _ hi; omega)).trans (by go_simp); have W6b : w6.cell? ⟨wr.heap.size, 2, none⟩ = some (.slice vo vl.length vcap) := (cell_grown hg (by simp only [World.drew]; simp; omega) (fun hi => by have := HNB.out _ hi; omega)).trans (by go_simp); have z6 := hg.size; (try simp only [World.drew] at z6); (try simp at z6); have HB6 : Hid (v6.ownBlock = (Value.slice bo (pref seq l k).length bcap).ownBlock ∨ v6.ownBlock = some (w5.drew.alloc (.cells #[.int .u8 0] 5)).heap.size) := Lib.hid hb; have HN6 : Hid (v6.ownBlock ≠ some wr.heap.size) := Lib.hid (fun hi => by rcases HB6.out with e | e; exact (by rw [e] at hi; have := HNB.out _ hi; omega); exact (by rw [e] at hi; have := Option.some.inj hi; simp only [World.drew] at this; simp at this; omega)); have HL6 : Hid (∀ i, v6.ownBlock = some i → W.heap.size ≤ i) := Lib.hid (fun i hi => by rcases HB6.out with e | e; exact (by rw [e] at hi; have := HNB.out _ hi; omega); exact (by rw [e] at hi; have := Option.some.inj hi; simp only [World.drew] at this; simp at this; omega)); clear ho hg hb)
              | (go_at_call 20; have hc := (text_any v6 (.slice ko kl.length kcap) _ W.heap.size (pref seq l k ++ [0]) kl w6 HO6.out (hkv.out.below G6.out) kl65 (by simp only [List.length_cons, List.length_nil]; omega) (by omega)); with_reducible refine Calls.mono hc ?_; clear hc; unfold TextAPost; rintro e w7 ⟨v7, rfl, ho7, hg7, hb7⟩; have HO7 := Lib.hid ho7; have W7a : w7.cell? ⟨wr.heap.size, 1, none⟩ = some (.slice ko kl.length kcap) := (cell_grown hg7 (by omega) HN6.out).trans W6a; have W7b : w7.cell? ⟨wr.heap.size, 2, none⟩ = some (.slice vo vl.length vcap) := (cell_grown hg7 (by omega) HN6.out).trans W6b; have G7 := Lib.hid (bel_row G6.out hg7 HL6.out); have z7 := hg7.size; have HB7 := Lib.hid hb7; have HN7 : Hid (v7.ownBlock ≠ some wr.heap.size) := Lib.hid (fun hi => by rcases HB7.out with e | ⟨s, hs, e⟩; exact absurd hi (by rw [e]; exact HN6.out); exact (by rw [e] at hi; have := Option.some.inj hi; omega)); have HL7 : Hid (∀ i, v7.ownBlock = some i → W.heap.size ≤ i) := Lib.hid (fun i hi => by rcases HB7.out with e | ⟨s, hs, e⟩; exact (by rw [e] at hi; exact HL6.out i hi); exact (by rw [e] at hi; have := Option.some.inj hi; omega)); clear ho7 hg7 hb7)
              | (go_at_call 20; have hc := (text_any v7 (.slice vo vl.length vcap) _ W.heap.size (pref seq l k ++ [0] ++ textB kl) vl w7 HO7.out (hvv.out.below G7.out) vl65 (by simp only [List.length_cons, List.length_nil]; unfold textB; rw [List.length_append]; have := numN_len10 (n := kl.length) (by omega); omega) (by omega)); with_reducible refine Calls.mono hc ?_; clear hc; unfold TextAPost; rintro e w8 ⟨v8, rfl, ho8, hg8, hb8⟩; have HO8 := Lib.hid ho8; have W8a : w8.cell? ⟨wr.heap.size, 1, none⟩ = some (.slice ko kl.length kcap) := (cell_grown hg8 (by omega) HN7.out).trans W7a; have W8b : w8.cell? ⟨wr.heap.size, 2, none⟩ = some (.slice vo vl.length vcap) := (cell_grown hg8 (by omega) HN7.out).trans W7b; have G8 := Lib.hid (bel_row G7.out hg8 HL7.out); clear ho8 hg8 hb8))
            go_wp2_with fail
            go_roundw
            case rel =>
              have e : pref seq l (k + 1) = pref seq l k ++ [0] ++ textB kl ++ textB vl := by rw [HFS.out]; simp [opB]
              exact ⟨k + 1, by omega, by go_num, HFT.out, by rw [e, List.length_append, List.length_append, List.length_append]; exact HO8.out, G8.out⟩
            case measure => simp [intOf]; omega
          · go_wp2_with fail
            go_region_held3 (fun w' => w'.cell? ⟨wr.heap.size, 1, none⟩ = some (.slice ko kl.length kcap)) (first | assumption | go_keep) (first
              | (refine step_of_list rfl ?_; refine wpList_append_bytes' (w := w5.drew.alloc (.cells #[.int .u8 1] 5)) (base := W.heap.size) (.tmp 36) (.tmp 37) _ rfl rfl i0 _ Try.underlying28 HI.out HZ0.out HZ1.out HZ2.out rfl _ (pref seq l k) [1] rfl rfl ((show World.ownsRow w5.drew _ _ _ _ _ _ from HO5.out).alloc _) (isB_const w5.drew [1] (Rng.cons (by decide) Rng.nil) (by simp) 5 (0, 0)) (by simp only [List.length_cons, List.length_nil]; omega) (by simp only [World.drew]; simp; omega) ?_; intro v6 w6 ho hg hb; refine list_done ?_; have HO6 := Lib.hid ho; have G6 := Lib.hid (bel_row (bel_alloc G5.out.drew (.cells #[.int .u8 1] 5)) hg (fun i hi => (HNB.out i hi).1)); have D6 : w6.cell? ⟨wr.heap.size, 1, none⟩ = some (.slice ko kl.length kcap) := (cell_grown hg (by simp only [World.drew]; simp; omega) (fun hi => by have := HNB.out _ hi; omega)).trans (by go_simp); have z6 := hg.size; (try simp only [World.drew] at z6); (try simp at z6); have HB6 : Hid (v6.ownBlock = (Value.slice bo (pref seq l k).length bcap).ownBlock ∨ v6.ownBlock = some (w5.drew.alloc (.cells #[.int .u8 1] 5)).heap.size) := Lib.hid hb; clear ho hg hb)
              | (go_at_call 20; have hc := (text_any v6 (.slice ko kl.length kcap) _ W.heap.size (pref seq l k ++ [1]) kl w6 HO6.out (hkv.out.below G6.out) kl65 (by simp only [List.length_cons, List.length_nil]; omega) (by omega)); with_reducible refine Calls.mono hc ?_; clear hc; unfold TextAPost; rintro e w7 ⟨v7, rfl, ho7, hg7, hb7⟩; have HO7 := Lib.hid ho7; have D7 : w7.cell? ⟨wr.heap.size, 1, none⟩ = some (.slice ko kl.length kcap) := (cell_grown hg7 (by omega) (fun hi => by rcases HB6.out with e | e; exact (by rw [e] at hi; have := HNB.out _ hi; omega); exact (by rw [e] at hi; have := Option.some.inj hi; simp only [World.drew] at this; simp at this; omega))).trans D6; have G7 := Lib.hid (bel_row G6.out hg7 (fun i hi => by rcases HB6.out with e | e; exact (by rw [e] at hi; have := HNB.out _ hi; omega); exact (by rw [e] at hi; have := Option.some.inj hi; simp only [World.drew] at this; simp at this; omega))); clear ho7 hg7 hb7))
            go_wp2_with fail
            go_roundw
            case rel =>
              have e : pref seq l (k + 1) = pref seq l k ++ [1] ++ textB kl := by rw [HFS.out]; simp [opB]
              exact ⟨k + 1, by omega, by go_num, HFT.out, by rw [e, List.length_append, List.length_append]; exact HO7.out, G7.out⟩
            case measure => simp [intOf]; omega
        · have hf' : fitsB (d, kl, vl) = false := by simpa using hf
          have hF := HFF.out
          have hall : l.all fitsB = false := by
            rw [List.all_eq_false]
            exact ⟨_, List.mem_of_getElem? hx.out, by rw [hf']; decide⟩
          rw [if_pos (.inr (.inr hall))] at hF
          have HF := Lib.hid hF
          clear hF hall hf
          go_wp2_with fail
          refine (fits_any _ _ (d, kl, vl) _ (hkv.out.below GOW.out) (hvv.out.below GOW.out)).mono ?_
          rw [hf']
          rintro e w5 ⟨rfl, g5⟩
          have G5 := Lib.hid (bel_call GOW.out g5)
          clear g5 c0 c1 c2
          go_wp2_with fail
          go_ret2
          exact enc_bad HF.out (w1b.out.trans (G5.out.mono (by omega)))
      · have hkl : k = l.length := by omega
        subst hkl
        have hall : l.all fitsB = true := by
          rw [List.all_eq_true]
          intro y hy
          exact hfit.out y (by rw [List.take_length]; exact hy)
        have hF := HFF.out
        have hbl : (bodyB seq l).length ≤ 20 + l.length * 65836 := by rw [← pref_all]; exact hpk
        rw [if_neg (by rintro (h | h | h); omega; omega; exact absurd (hall.symm.trans h) (by decide))] at hF
        have HP := Lib.hid (pref_all seq l)
        have hown2 := hown.out
        rw [HP.out] at hown2
        have HO2 := Lib.hid hown2
        have K0 := (hbel.out.cell (p := ⟨w.heap.size, 0, none⟩) hzw).trans B0
        have hsm : (pref seq l l.length).length = (bodyB seq l).length := by rw [HP.out]
        obtain ⟨bo, bcap, rfl, -, -, -, -⟩ := own_form hown2
        have GE := Lib.hid (w1b.out.trans (hbel.out.mono (by omega)))
        clear hall hown2 hpk
        by_cases hs1 : seq < 1
        · have h0 : seq = 0 := by omega
          subst h0
          rw [if_pos (.inl (by omega))] at hF
          have HF := Lib.hid hF
          clear hF
          go_wp2_with fail
          go_ret2
          exact enc_bad HF.out GE.out
        · have q2 : decide ((seq : Int) < 1) = false := decide_eq_false (by omega)
          have w1' : IntKind.u64.wrap (4611686018427387904 - (l.length : Int)) = 4611686018427387904 - (l.length : Int) := by
            simp only [IntKind.wrap, IntKind.bits, IntKind.signed]; simp; omega
          by_cases hs2 : 4611686018427387904 < seq + l.length
          · have q3 : decide (4611686018427387904 - (l.length : Int) < (seq : Int)) = true := decide_eq_true (by omega)
            rw [if_pos (.inr hs2)] at hF
            have HF := Lib.hid hF
            clear hF
            go_wp2_with fail
            go_ret2
            exact enc_bad HF.out GE.out
          · have q3 : decide (4611686018427387904 - (l.length : Int) < (seq : Int)) = false := decide_eq_false (by omega)
            rw [if_neg (by omega)] at hF
            by_cases hb1 : 1048576 < (bodyB seq l).length
            · have q4 : decide ((1048576 : Int) < ((bodyB seq l).length : Int)) = true := decide_eq_true (by omega)
              rw [if_pos hb1] at hF
              have HF := Lib.hid hF
              clear hF
              go_wp2_with fail
              go_ret2
              exact enc_bad HF.out GE.out
            · have q4 : decide ((1048576 : Int) < ((bodyB seq l).length : Int)) = false := decide_eq_false (by omega)
              rw [if_neg hb1] at hF
              have HF := Lib.hid hF
              have hBR : Rng (bodyB seq l) := bodyB_rng seq (fun x hx => IsOps.rng HBW.out hx)
              have HBR := Lib.hid hBR
              have HIB := Lib.hid (IsB.of_own HO2.out hBR)
              clear hF hBR
              go_wp2_with fail
              refine (frame_ok 66 (by decide) _ (bodyB seq l) wr HIB.out (by omega)).mono ?_
              unfold FramePost
              rintro e w9 ⟨fv, rfl, hfv, g9⟩
              have HV := Lib.hid (OwnS.of_own hfv (show Rng (frameF 66 (bodyB seq l)) from ((headF_rng (by decide) _).append (le4_rng _)).append HBR.out))
              have G9 := Lib.hid (bel_call GE.out g9)
              have z9 := GE.out.size
              clear hfv g9
              go_wp2_with fail
              go_ret2
              exact ⟨_, ret_enc HF.out, by rw [HF.out]; exact HV.out.mono z9, G9.out⟩
end Wal
end Go.Proofs.Ytlfelpbcnpjneaa
