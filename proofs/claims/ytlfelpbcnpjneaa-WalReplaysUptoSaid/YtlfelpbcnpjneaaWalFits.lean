/- wal: fits, text. -/
import Derived.Test.YtlfelpbcnpjneaaWalOps
import Derived.Test.YtlfelpbcnpjneaaCodecTx
import Derived.Test.YtlfelpbcnpjneaaKit
namespace Go.Proofs.Ytlfelpbcnpjneaa
open Go.RowKit
namespace Wal
open Codec
set_option maxHeartbeats 1000000 in
theorem fits_any (kv vv : Value) (x : Opr) (w : World) (h : IsB w kv x.2.1) (k : IsB w vv x.2.2) :
    Calls Try.prog 19 #[.agg #[.bool x.1, kv, vv]] w (Ret (.bool (fitsB x)) w) := by
  have hm := h.max
  have hm2 := k.max
  obtain ⟨ko, kcap, rfl, -, -, -⟩ := h.form
  obtain ⟨vo, vcap, rfl, -, -, -⟩ := k.form
  obtain ⟨d, kl, vl⟩ := x
  simp only at *
  have hF : fitsB (d, kl, vl) = (!(d && decide (0 < vl.length)) && decide (0 < kl.length) && decide (kl.length ≤ 256) && decide (vl.length ≤ 65536)) := rfl
  clear h k
  by_cases h1 : d = true ∧ 0 < vl.length
  · obtain ⟨rfl, h1⟩ := h1
    have hf : fitsB (true, kl, vl) = false := by rw [hF]; simp [h1]
    rw [hf]
    clear hF hf
    go_enter Try.func19, Try.ntmps19
    go_wp2_with fail
    go_ret
    exact ⟨rfl, (by repeat' (first | (with_reducible exact Below.refl _ _) | (with_reducible assumption) | (with_reducible refine Below.drew ?_) | (with_reducible refine below_drewN ?_ _) | (with_reducible refine bel_alloc ?_ _) | (with_reducible refine Below.setCell ?_ ?_ _) | (with_reducible refine bel_call ?_ (by assumption)) | (simp <;> omega)))⟩
  · have hq : (d && decide (0 < (vl.length : Int))) = false := by
      rw [Bool.and_eq_false_iff]
      cases d
      · exact .inl rfl
      · exact .inr (decide_eq_false (by have : ¬ 0 < vl.length := fun h => h1 ⟨rfl, h⟩; omega))
    by_cases h2 : 0 < kl.length
    · have e2 : decide (0 < (kl.length : Int)) = true := decide_eq_true (by omega)
      by_cases h3 : kl.length ≤ 256
      · have e3 : decide ((kl.length : Int) ≤ 256) = true := decide_eq_true (by omega)
        by_cases h4 : vl.length ≤ 65536
        · have e4 : decide ((vl.length : Int) ≤ 65536) = true := decide_eq_true (by omega)
          have hf : fitsB (d, kl, vl) = true := by
            rw [hF]
            have : (d && decide (0 < vl.length)) = false := by cases d <;> simp_all
            rw [this]; simp [h2, h3, h4]
          rw [hf]
          clear hF hf
          cases d
          · clear hq h1
            go_enter Try.func19, Try.ntmps19
            go_wp2_with fail
            go_ret
            exact ⟨rfl, (by repeat' (first | (with_reducible exact Below.refl _ _) | (with_reducible assumption) | (with_reducible refine Below.drew ?_) | (with_reducible refine below_drewN ?_ _) | (with_reducible refine bel_alloc ?_ _) | (with_reducible refine Below.setCell ?_ ?_ _) | (with_reducible refine bel_call ?_ (by assumption)) | (simp <;> omega)))⟩
          · have h5 : ¬ 0 < vl.length := fun h => h1 ⟨rfl, h⟩
            have h6 : vl.length = 0 := by omega
            clear hq h1 h5 h4
            go_enter Try.func19, Try.ntmps19
            go_wp2_with fail
            go_ret
            exact ⟨rfl, (by repeat' (first | (with_reducible exact Below.refl _ _) | (with_reducible assumption) | (with_reducible refine Below.drew ?_) | (with_reducible refine below_drewN ?_ _) | (with_reducible refine bel_alloc ?_ _) | (with_reducible refine Below.setCell ?_ ?_ _) | (with_reducible refine bel_call ?_ (by assumption)) | (simp <;> omega)))⟩
        · have e4 : decide ((vl.length : Int) ≤ 65536) = false := decide_eq_false (by omega)
          have hf : fitsB (d, kl, vl) = false := by rw [hF]; simp [h4]
          rw [hf]
          clear hF hf
          cases d
          · clear hq h1
            go_enter Try.func19, Try.ntmps19
            go_wp2_with fail
            go_ret
            exact ⟨rfl, (by repeat' (first | (with_reducible exact Below.refl _ _) | (with_reducible assumption) | (with_reducible refine Below.drew ?_) | (with_reducible refine below_drewN ?_ _) | (with_reducible refine bel_alloc ?_ _) | (with_reducible refine Below.setCell ?_ ?_ _) | (with_reducible refine bel_call ?_ (by assumption)) | (simp <;> omega)))⟩
          · exact absurd ⟨rfl, by omega⟩ h1
      · have e3 : decide ((kl.length : Int) ≤ 256) = false := decide_eq_false (by omega)
        have hf : fitsB (d, kl, vl) = false := by rw [hF]; simp [h3]
        rw [hf]
        clear hF hf
        cases d
        · clear hq h1
          go_enter Try.func19, Try.ntmps19
          go_wp2_with fail
          go_ret
          exact ⟨rfl, (by repeat' (first | (with_reducible exact Below.refl _ _) | (with_reducible assumption) | (with_reducible refine Below.drew ?_) | (with_reducible refine below_drewN ?_ _) | (with_reducible refine bel_alloc ?_ _) | (with_reducible refine Below.setCell ?_ ?_ _) | (with_reducible refine bel_call ?_ (by assumption)) | (simp <;> omega)))⟩
        · have h5 : ¬ 0 < vl.length := fun h => h1 ⟨rfl, h⟩
          have h6 : vl.length = 0 := by omega
          clear hq h1 h5
          go_enter Try.func19, Try.ntmps19
          go_wp2_with fail
          go_ret
          exact ⟨rfl, (by repeat' (first | (with_reducible exact Below.refl _ _) | (with_reducible assumption) | (with_reducible refine Below.drew ?_) | (with_reducible refine below_drewN ?_ _) | (with_reducible refine bel_alloc ?_ _) | (with_reducible refine Below.setCell ?_ ?_ _) | (with_reducible refine bel_call ?_ (by assumption)) | (simp <;> omega)))⟩
    · have e2 : decide (0 < (kl.length : Int)) = false := decide_eq_false (by omega)
      have hf : fitsB (d, kl, vl) = false := by rw [hF]; simp [h2]
      have h0 : kl.length = 0 := by omega
      rw [hf]
      clear hF hf h2
      cases d
      · clear hq h1
        go_enter Try.func19, Try.ntmps19
        go_wp2_with fail
        go_ret
        exact ⟨rfl, (by repeat' (first | (with_reducible exact Below.refl _ _) | (with_reducible assumption) | (with_reducible refine Below.drew ?_) | (with_reducible refine below_drewN ?_ _) | (with_reducible refine bel_alloc ?_ _) | (with_reducible refine Below.setCell ?_ ?_ _) | (with_reducible refine bel_call ?_ (by assumption)) | (simp <;> omega)))⟩
      · have h5 : ¬ 0 < vl.length := fun h => h1 ⟨rfl, h⟩
        have h6 : vl.length = 0 := by omega
        clear hq h1 h5
        go_enter Try.func19, Try.ntmps19
        go_wp2_with fail
        go_ret
        exact ⟨rfl, (by repeat' (first | (with_reducible exact Below.refl _ _) | (with_reducible assumption) | (with_reducible refine Below.drew ?_) | (with_reducible refine below_drewN ?_ _) | (with_reducible refine bel_alloc ?_ _) | (with_reducible refine Below.setCell ?_ ?_ _) | (with_reducible refine bel_call ?_ (by assumption)) | (simp <;> omega)))⟩
def TextAPost (v : Value) (n base : Nat) (pre l : List Int) (w : World) (e : Ending) (w' : World) : Prop :=
  ∃ v', e = .returned v' ∧ w'.ownsRow base 5 1 v' (n + (textB l).length) ((pre ++ textB l).map (Value.int .u8)) ∧ w.grownBy w' v.ownBlock ∧ (v'.ownBlock = v.ownBlock ∨ ∃ s, w.heap.size ≤ s ∧ v'.ownBlock = some s)
set_option maxHeartbeats 1000000 in
theorem text_any (v u : Value) (n base : Nat) (pre l : List Int) (w : World) (h : w.ownsRow base 5 1 v n (pre.map (Value.int .u8))) (k : IsB w u l) (hl : l.length ≤ 65536) (hn : n ≤ 1099511627776) (hb : base ≤ w.heap.size) :
    Calls Try.prog 20 #[v, u] w (TextAPost v n base pre l w) := by
  obtain ⟨bo, bcap, rfl, -, -, -, -⟩ := own_form h
  obtain ⟨uo, ucap, rfl, -, -, -⟩ := k.form
  have HO := Lib.hid h
  have HB := Lib.hid k
  have h10 := numN_len10 (n := l.length) (by omega)
  have HX := Lib.hid (show numN l.length ++ l = textB l from rfl)
  have hXl : (textB l).length ≤ 65546 := by unfold textB; rw [List.length_append]; omega
  have HXR := Lib.hid (textB_rng k.rng)
  obtain ⟨i0, hi0, hz0, hz1, hz2⟩ := info_parts infoU8
  have HI := Lib.hid hi0; have HZ0 := Lib.hid hz0; have HZ1 := Lib.hid hz1; have HZ2 := Lib.hid hz2
  clear hi0 hz0 hz1 hz2 h k h10
  go_enter Try.func20, Try.ntmps20
  go_wp2_with fail
  refine (text_ok _ l w HB.out (by omega)).mono ?_
  unfold TextPost
  rw [HX.out]
  rintro e w1 ⟨tv, rfl, htv, g1⟩
  have HT := Lib.hid (IsB.of_own htv HXR.out)
  have HO1 := Lib.hid (own_below HO.out g1)
  have G1 := Lib.hid g1
  have z1 := g1.size
  obtain ⟨to, tcap, rfl, -, -, -, -⟩ := own_form htv
  clear htv g1
  go_wp2_with (at_builtin; refine wpList_append_bytes' (w := w1) (base := base) (.tmp 12) (.tmp 13) _ rfl rfl i0 _ Try.underlying28 HI.out HZ0.out HZ1.out HZ2.out rfl _ pre (textB l) rfl rfl HO1.out HT.out (by omega) (by omega) ?_; intro v2 w2 hown2 hg2 hb2; have HO2 := Lib.hid hown2; have HG2 := Lib.hid hg2; have HB2 := Lib.hid hb2; clear hown2 hg2 hb2)
  go_ret
  refine ⟨_, rfl, HO2.out, ?_, ?_⟩
  · exact (gb_call (gb_refl w _) G1.out).trans HG2.out
  · rcases HB2.out with h | h
    · exact .inl h
    · exact .inr ⟨_, z1, h⟩
end Wal
end Go.Proofs.Ytlfelpbcnpjneaa
