/- wal: the reader's methods. -/
import Derived.Test.YtlfelpbcnpjneaaWalOps
import Derived.Test.YtlfelpbcnpjneaaCodecTT
import Derived.Test.YtlfelpbcnpjneaaCodecLent
namespace Go.Proofs.Ytlfelpbcnpjneaa
open Go.RowKit
namespace Wal
open Codec
/-- a reader at block g: what is left to read (bytes that lay in W), whether it went wrong -/
def RdAt (W w : World) (g : Nat) (l : List Int) (bad : Bool) : Prop :=
  ∃ bv, w.cell? ⟨g, 0, none⟩ = some bv ∧ w.cell? ⟨g, 1, none⟩ = some (.bool bad) ∧ w.frozen? ⟨g, 0, none⟩ = false ∧ w.frozen? ⟨g, 1, none⟩ = false ∧ IsB W bv l ∧ W.heap.size ≤ g ∧ g < w.heap.size ∧ Below W.heap.size W w
def RdPost (W : World) (g : Nat) (l : List Int) (bad : Bool) (w : World) (w' : World) : Prop := RdAt W w' g l bad ∧ w.grownBy w' (some g)
theorem gb_one {w : World} {g o : Nat} (u : Value) : w.grownBy (w.setCell ⟨g, o, none⟩ u) (some g) := gb_set (gb_refl w (some g)) (.inl rfl) u
set_option maxHeartbeats 1000000 in
theorem went_bad (W w : World) (g : Nat) (l : List Int) (bad : Bool) (n e : Int) (h : RdAt W w g l bad) (he : e ≠ 0) :
    Calls Try.prog 48 #[.pointer (some ⟨g, 0, none⟩), .int .i64 n, .int .i64 e] w fun en w' => en = .returned (.tuple #[]) ∧ RdPost W g l true w w' := by
  obtain ⟨bv, c0, c1, z0, z1, hB, hWg, hgw, hbel⟩ := h
  have q : (e != 0) = true := by simp [he]
  have HB := Lib.hid hB
  have HBEL := Lib.hid hbel
  clear hB he hbel
  go_enter Try.func48, Try.ntmps48
  go_wp2_with fail
  ((try simp only [Exit.inBlock, Exit.then]); refine bodyPost_ret (results_none rfl _ _ _) rfl ?_)
  exact ⟨rfl, ⟨bv, by go_simp, by go_simp, by go_simp, by go_simp, HB.out, hWg, by simpa using hgw, HBEL.out.setCell (p := ⟨g, 1, none⟩) hWg _⟩, gb_one _⟩
set_option maxHeartbeats 1000000 in
theorem went_ok (W w : World) (g : Nat) (l : List Int) (bad : Bool) (n : Nat) (h : RdAt W w g l bad) (hn : n ≤ l.length) :
    Calls Try.prog 48 #[.pointer (some ⟨g, 0, none⟩), .int .i64 n, .int .i64 0] w fun en w' => en = .returned (.tuple #[]) ∧ RdPost W g (l.drop n) bad w w' := by
  obtain ⟨bv, c0, c1, z0, z1, hB, hWg, hgw, hbel⟩ := h
  obtain ⟨ao, cap, rfl, hnc, hcap, -⟩ := hB.form
  have HB := Lib.hid hB
  have HBEL := Lib.hid hbel
  have hm := hB.max
  clear hB hbel
  by_cases hc : cap = n
  · subst hc
    have hd : l.drop cap = [] := List.drop_eq_nil_of_le (by omega)
    rw [hd]
    have hB0 := Lib.hid HB.out.cut0
    go_enter Try.func48, Try.ntmps48
    go_wp2_with fail
    go_end0
    exact ⟨rfl, ⟨_, by go_simp, by go_simp, by go_simp, by go_simp, hB0.out, hWg, by simpa using hgw, HBEL.out.setCell (p := ⟨g, 0, none⟩) hWg _⟩, gb_one _⟩
  · have hD : IsB W (.slice (ao.map (·.add n)) (l.length - n) (cap - n)) (l.drop n) := by
      have := HB.out.cut n (l.length - n) (by omega)
      rwa [List.take_of_length_le (by rw [List.length_drop]; omega)] at this
    have HD := Lib.hid hD
    clear hD
    go_enter Try.func48, Try.ntmps48
    go_wp2_with fail
    go_end0
    exact ⟨rfl, ⟨_, by go_simp, by go_simp, by go_simp, by go_simp, HD.out, hWg, by simpa using hgw, HBEL.out.setCell (p := ⟨g, 0, none⟩) hWg _⟩, gb_one _⟩
theorem RdAt.below {W w w' : World} {g : Nat} {l : List Int} {bad : Bool} (h : RdAt W w g l bad) (hb : Below w.heap.size w w') : RdAt W w' g l bad := by
  obtain ⟨bv, c0, c1, z0, z1, hB, hWg, hgw, hbel⟩ := h
  have hWw : W.heap.size ≤ w.heap.size := hbel.size
  exact ⟨bv, (hb.cell (p := ⟨g, 0, none⟩) hgw).trans c0, (hb.cell (p := ⟨g, 1, none⟩) hgw).trans c1, (hb.frozen (p := ⟨g, 0, none⟩) hgw).trans z0, (hb.frozen (p := ⟨g, 1, none⟩) hgw).trans z1, hB, hWg, Nat.lt_of_lt_of_le hgw hb.size, hbel.trans (hb.mono hWw)⟩
/-- what is left behind a number; whether it went wrong -/
def numRest (l : List Int) : List Int := if (takeN l).2.2 = 0 then l.drop (takeN l).2.1.toNat else l
def numBad (l : List Int) (bad : Bool) : Bool := if (takeN l).2.2 = 0 then bad else true
def textRest (l : List Int) : List Int := if (takeTextF l).2.2 = 0 then l.drop (takeTextF l).2.1.toNat else l
def textBad (l : List Int) (bad : Bool) : Bool := if (takeTextF l).2.2 = 0 then bad else true
set_option maxHeartbeats 1000000 in
theorem rdNumber_any (W w : World) (g : Nat) (l : List Int) (bad : Bool) (h : RdAt W w g l bad) :
    Calls Try.prog 40 #[.pointer (some ⟨g, 0, none⟩)] w fun en w' => en = .returned (.int .u64 (takeN l).1) ∧ RdPost W g (numRest l) (numBad l bad) w w' := by
  have HR := Lib.hid h
  obtain ⟨bv, c0, c1, z0, z1, hB, hWg, hgw, hbel⟩ := h
  have hbd := takeN_bd hB.rng
  have HT := Lib.hid (takeNumber_any bv l w (hB.below hbel))
  obtain ⟨ao, cap, rfl, -, -, -⟩ := hB.form
  have hN : numRest l = if (takeN l).2.2 = 0 then l.drop (takeN l).2.1.toNat else l := rfl
  have hN2 : numBad l bad = if (takeN l).2.2 = 0 then bad else true := rfl
  generalize takeN l = t at HT hN hN2 hbd ⊢
  obtain ⟨n, at_, e⟩ := t
  simp only at HT hN hN2 hbd
  obtain ⟨-, ⟨b3, b4⟩, -⟩ := hbd
  obtain ⟨K, rfl⟩ := Int.eq_ofNat_of_zero_le b3
  by_cases he : e = 0
  · subst he
    rw [if_pos rfl] at hN hN2
    have hw := went_ok W w g l bad K HR.out (by omega)
    rw [← hN2] at hw
    simp only [Int.toNat_natCast] at hN
    rw [← hN] at hw
    have HW := Lib.hid hw
    clear hB hN hN2 hw
    go_enter Try.func40, Try.ntmps40
    go_wp2_with fail
    refine HT.out.mono ?_
    rintro e w1 ⟨rfl, hw1⟩
    subst hw1
    go_wp2_with fail
    refine HW.out.mono ?_
    rintro e w1 ⟨rfl, hp⟩
    have HP := Lib.hid hp
    clear hp
    go_wp2_with fail
    go_ret
    exact ⟨rfl, HP.out⟩
  · rw [if_neg he] at hN hN2
    have hw := went_bad W w g l bad K e HR.out he
    have HW := Lib.hid hw
    have HN := Lib.hid hN
    have HN2 := Lib.hid hN2
    clear hB hN hN2 hw
    go_enter Try.func40, Try.ntmps40
    go_wp2_with fail
    refine HT.out.mono ?_
    rintro e w1 ⟨rfl, hw1⟩
    subst hw1
    go_wp2_with fail
    refine HW.out.mono ?_
    rintro e w1 ⟨rfl, hp⟩
    have HP := Lib.hid hp
    clear hp
    go_wp2_with fail
    go_ret
    exact ⟨rfl, by rw [HN.out, HN2.out]; exact HP.out⟩
theorem takeTextF_bd {l : List Int} (h : Rng l) : 0 ≤ (takeTextF l).2.1 ∧ (takeTextF l).2.1 ≤ l.length ∧ Rng (takeTextF l).1 := by
  have hb := lenF_bd h 0 (by decide)
  unfold takeTextF
  by_cases he : (lenF l 0).2.2 ≠ 0
  · rw [if_pos he]; exact ⟨by simp, by simp, Rng.nil⟩
  · rw [if_neg he]
    have hb3 := hb.2.2 (by omega)
    exact ⟨by simp only; omega, by simp only; omega, (h.drop _).take _⟩
set_option maxHeartbeats 1000000 in
theorem rdText_any (W w : World) (g : Nat) (l : List Int) (bad : Bool) (h : RdAt W w g l bad) :
    Calls Try.prog 42 #[.pointer (some ⟨g, 0, none⟩)] w fun en w' => ∃ v, en = .returned v ∧ OwnS w' w.heap.size 5 v (takeTextF l).1 ∧ RdPost W g (textRest l) (textBad l bad) w w' := by
  have HR := Lib.hid h
  obtain ⟨bv, c0, c1, z0, z1, hB, hWg, hgw, hbel⟩ := h
  have hbd := takeTextF_bd hB.rng
  have HT := Lib.hid (takeText_any bv l w (hB.below hbel))
  unfold TTPost at HT
  obtain ⟨ao, cap, rfl, -, -, -⟩ := hB.form
  have hN : textRest l = if (takeTextF l).2.2 = 0 then l.drop (takeTextF l).2.1.toNat else l := rfl
  have hN2 : textBad l bad = if (takeTextF l).2.2 = 0 then bad else true := rfl
  generalize takeTextF l = t at HT hN hN2 hbd ⊢
  obtain ⟨s, at_, e⟩ := t
  simp only at HT hN hN2 hbd ⊢
  obtain ⟨b3, b4, -⟩ := hbd
  obtain ⟨K, rfl⟩ := Int.eq_ofNat_of_zero_le b3
  have HN := Lib.hid hN
  have HN2 := Lib.hid hN2
  clear hB hN hN2
  go_enter Try.func42, Try.ntmps42
  go_wp2_with fail
  refine HT.out.mono ?_
  rintro en w1 ⟨v, rfl, hv, g1⟩
  have HV := Lib.hid hv
  have HR1 := Lib.hid (HR.out.below g1)
  have G1 := Lib.hid g1
  have z1' := g1.size
  obtain ⟨vo, vcap, rfl, -, -, -, -⟩ := hv.form
  clear hv g1
  by_cases he : e = 0
  · subst he
    have hN := HN.out
    have hN2 := HN2.out
    rw [if_pos rfl] at hN hN2
    simp only [Int.toNat_natCast] at hN
    have HW := Lib.hid (went_ok W w1 g l bad K HR1.out (by omega))
    have HN' := Lib.hid hN
    have HN2' := Lib.hid hN2
    clear hN hN2
    go_wp2_with fail
    refine HW.out.mono ?_
    rintro en w2 ⟨rfl, hp⟩
    have HP := Lib.hid hp
    clear hp
    go_wp2_with fail
    go_ret
    exact ⟨_, rfl, HV.out.kept HP.out.2 (.inr fun hh => by have := HV.out.lt g hh; omega), by rw [HN'.out, HN2'.out]; exact ⟨HP.out.1, (gb_call (gb_refl w (some g)) G1.out).trans HP.out.2⟩⟩
  · have hN := HN.out
    have hN2 := HN2.out
    rw [if_neg he] at hN hN2
    have HW := Lib.hid (went_bad W w1 g l bad K e HR1.out he)
    have HN' := Lib.hid hN
    have HN2' := Lib.hid hN2
    clear hN hN2
    go_wp2_with fail
    refine HW.out.mono ?_
    rintro en w2 ⟨rfl, hp⟩
    have HP := Lib.hid hp
    clear hp
    go_wp2_with fail
    go_ret
    exact ⟨_, rfl, HV.out.kept HP.out.2 (.inr fun hh => by have := HV.out.lt g hh; omega), by rw [HN'.out, HN2'.out]; exact ⟨HP.out.1, (gb_call (gb_refl w (some g)) G1.out).trans HP.out.2⟩⟩
def byteBad (l : List Int) (bad : Bool) : Bool := if l = [] then true else bad
set_option maxHeartbeats 1000000 in
theorem rdByte_any (W w : World) (g : Nat) (l : List Int) (bad : Bool) (h : RdAt W w g l bad) :
    Calls Try.prog 41 #[.pointer (some ⟨g, 0, none⟩)] w fun en w' => en = .returned (.int .u8 (l.getD 0 0)) ∧ RdPost W g (l.drop 1) (byteBad l bad) w w' := by
  obtain ⟨bv, c0, c1, z0, z1, hB, hWg, hgw, hbel⟩ := h
  obtain ⟨ao, cap, rfl, hnc, hcap, hform⟩ := hB.form
  have HB := Lib.hid hB
  have HBEL := Lib.hid hbel
  have hm := hB.max
  cases l with
  | nil =>
    have e : byteBad [] bad = true := rfl
    rw [e]
    clear hB hbel hform
    go_enter Try.func41, Try.ntmps41
    go_wp2_with fail
    go_ret
    exact ⟨rfl, ⟨_, by go_simp, by go_simp, by go_simp, by go_simp, HB.out, hWg, by simpa using hgw, HBEL.out.setCell (p := ⟨g, 1, none⟩) hWg _⟩, gb_one _⟩
  | cons x r =>
    have e : byteBad (x :: r) bad = bad := rfl
    rw [e]
    obtain ⟨b, o, rfl, hb⟩ := hform.resolve_left (by simp)
    obtain ⟨_, _, y, hy0, _, hy, hyc, _, _⟩ := (hB.below hbel).at_ (k := 0) (by simp)
    cases hy0
    have hyx : y = x := by have := hy.out; simpa using this.symm
    subst hyx
    simp only [Nat.add_zero] at hyc
    obtain ⟨L, hL⟩ : ∃ L, y :: r = L := ⟨_, rfl⟩
    have hLl : L.length = r.length + 1 := by rw [← hL]; rfl
    have HGET := Lib.hid (show L.getD 0 0 = y by rw [← hL]; rfl)
    rw [hL] at HB c0 hnc hm ⊢
    have l1 : 1 ≤ L.length := by omega
    have q : ((L.length : Int) == 0) = false := beq_eq_false_iff_ne.2 (by omega)
    have q1 : (0 : Int) < L.length := by omega
    clear hB hbel hL hy hLl
    by_cases hc : cap = 1
    · subst hc
      have hd : L.drop 1 = [] := List.drop_eq_nil_of_le (by omega)
      rw [hd]
      have HD := Lib.hid HB.out.cut0
      go_enter Try.func41, Try.ntmps41
      go_wp2_with fail
      go_ret
      exact ⟨by rw [HGET.out]; rfl, ⟨_, by go_simp, by go_simp, by go_simp, by go_simp, HD.out, hWg, by simpa using hgw, HBEL.out.setCell (p := ⟨g, 0, none⟩) hWg _⟩, gb_one _⟩
    · have hD : IsB W (.slice (some ⟨b, o + 1, none⟩) (L.length - 1) (cap - 1)) (L.drop 1) := by
        have := HB.out.cut 1 (L.length - 1) (by omega)
        rwa [List.take_of_length_le (by rw [List.length_drop]; omega)] at this
      have HD := Lib.hid hD
      clear hD
      go_enter Try.func41, Try.ntmps41
      go_wp2_with fail
      go_ret
      exact ⟨by rw [HGET.out]; rfl, ⟨_, by go_simp, by go_simp, by go_simp, by go_simp, HD.out, hWg, by simpa using hgw, HBEL.out.setCell (p := ⟨g, 0, none⟩) hWg _⟩, gb_one _⟩
end Wal
end Go.Proofs.Ytlfelpbcnpjneaa
