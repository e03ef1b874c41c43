/- rangemeta: spans and ranges; the small functions. -/
import Derived.Test.YtbeniogffhihlaaBytesFn
import Derived.Lib.SliceRun
import Derived.Deep.RegionHeld3
set_option linter.unusedVariables false
set_option linter.unusedSimpArgs false
namespace Go.Proofs.Ytbeniogffhihlaa
open Go.RowKit
namespace Rm
/-- a range: Id, From, To, Gen -/
abbrev RangeD : Type := Int × List Int × List Int × Int
def I64 (x : Int) : Prop := -9223372036854775808 ≤ x ∧ x ≤ 9223372036854775807
def rgR (w : World) (cs : List Value) (x : RangeD) : Prop := ∃ fv tv, cs = [.int .i64 x.1, fv, tv, .int .i64 x.2.2.2] ∧ IsB w fv x.2.1 ∧ IsB w tv x.2.2.1 ∧ I64 x.1 ∧ I64 x.2.2.2
theorem rgR_stays : Stays rgR := fun _w _w' _cs _x hb ⟨fv, tv, h1, h2, h3, h4⟩ => ⟨fv, tv, h1, h2.below hb, h3.below hb, h4⟩
abbrev IsRgs (w : World) (v : Value) (l : List RangeD) : Prop := IsL 4 rgR w v l
theorem IsRgs.at4 {w : World} {ao : Option Addr} {n cap k : Nat} {l : List RangeD} (h : IsRgs w (.slice ao n cap) l) (hk : k < l.length) :
    ∃ b o x fv tv, ao = some ⟨b, o, none⟩ ∧ b < w.heap.size ∧ Hid (l[k]? = some x) ∧ w.cell? ⟨b, o + k * 4, none⟩ = some (.int .i64 x.1) ∧ w.cell? ⟨b, o + k * 4 + 1, none⟩ = some fv ∧ w.cell? ⟨b, o + k * 4 + 2, none⟩ = some tv ∧ w.cell? ⟨b, o + k * 4 + 3, none⟩ = some (.int .i64 x.2.2.2) ∧ Hid (IsB w fv x.2.1) ∧ Hid (IsB w tv x.2.2.1) ∧ Hid (I64 x.1 ∧ I64 x.2.2.2) := by
  obtain ⟨b, o, x, cs, h1, h2, h3, h4, h5, fv, tv, rfl, h6, h7, h8⟩ := h.at_ hk
  exact ⟨b, o, x, fv, tv, h1, h2, h3, h5.out 0 _ rfl, h5.out 1 _ rfl, h5.out 2 _ rfl, h5.out 3 _ rfl, h6, h7, h8⟩
def CloneP (l : List Int) (w : World) (e : Ending) (w' : World) : Prop := ∃ v, e = .returned v ∧ OwnS w' w.heap.size 5 v l ∧ Below w.heap.size w w'
set_option maxRecDepth 100000 in
set_option maxHeartbeats 1000000 in
theorem cloneB_any (v : Value) (l : List Int) (w : World) (h : IsB w v l) (hl : l.length ≤ 140737488355328) : Calls Try.prog 73 #[v] w (CloneP l w) := by
  obtain ⟨i0, hi0, hz0, hz1, hz2⟩ := info_parts infoU8
  have HI := Lib.hid hi0; have HZ0 := Lib.hid hz0; have HZ1 := Lib.hid hz1; have HZ2 := Lib.hid hz2
  have qn := fun (w : World) (a : Option Addr) (n c n' c' : Nat) => Lib.run_eql_slice_nil (P := Try.prog) w 23 5 a n c n' c' Try.underlying23
  have HB := Lib.hid h
  obtain ⟨hr, ao, cap, rfl, hnc, hcap, hnone, -⟩ := h
  have HR := Lib.hid hr
  clear hi0 hz0 hz1 hz2 hr
  cases ao with
  | none =>
    obtain ⟨rfl, rfl⟩ := hnone rfl
    go_enter Try.func73, Try.ntmps73
    go_wp2_with fail
    go_ret
    exact ⟨_, rfl, ⟨Rng.nil, .inl ⟨rfl, rfl⟩⟩, Below.refl _ _⟩
  | some a =>
    clear hnone
    go_enter Try.func73, Try.ntmps73
    go_wp2_with (at_builtin; refine wpList_append_bytes (w := w.alloc (.cells #[] 5)) (base := w.heap.size) (.tmp 5) (.tmp 6) _ rfl rfl i0 _ Try.underlying23 HI.out HZ0.out HZ1.out HZ2.out rfl _ [] l rfl rfl (World.ownsRow_lit w #[] 0 (Nat.le_refl _) (by simp [maxLen]) (by simp)) (HB.out.alloc _) (by omega) (by simp) ?_; intro v2 w2 hown2 hb2; simp only [Nat.zero_add, List.nil_append] at hown2; have HO2 := Lib.hid (OwnS.of_own hown2 HR.out); have G2 := Lib.hid (((Below.refl _ w).alloc (Nat.le_refl _) _).trans hb2); clear hown2 hb2)
    go_ret
    exact ⟨_, rfl, HO2.out, G2.out⟩
/-- a span -/
abbrev SpanD : Type := List Int × List Int
def emptyB (p : SpanD) : Bool := decide (0 < p.2.length) && decide (cmpB p.2 p.1 ≤ 0)
def holdsB (p : SpanD) (k : List Int) : Bool := decide (0 ≤ cmpB k p.1) && (decide (p.2.length = 0) || decide (cmpB k p.2 < 0))
def rightB (x : RangeD) : Bool := decide (1 ≤ x.1) && decide (x.1 ≤ 255) && decide (1 ≤ x.2.2.2) && decide (x.2.2.2 ≤ 9007199254740991) && decide (x.2.1.length ≤ 110) && decide (x.2.2.1.length ≤ 110) && !emptyB (x.2.1, x.2.2.1)
set_option maxRecDepth 100000 in
set_option maxHeartbeats 1000000 in
theorem empty_any (fv tv : Value) (f t : List Int) (w : World) (hf : IsB w fv f) (ht : IsB w tv t) : Calls Try.prog 74 #[.agg #[fv, tv]] w (Ret (.bool (emptyB (f, t))) w) := by
  obtain ⟨fo, fc, rfl, -, -, -⟩ := hf.form
  obtain ⟨to, tc, rfl, -, -, -⟩ := ht.form
  have HC := Lib.hid (bcompare_any _ _ t f (w.alloc (.cells #[.slice fo f.length fc, .slice to t.length tc] 25)) (ht.alloc _) (hf.alloc _))
  have hE : emptyB (f, t) = (decide (0 < t.length) && decide (cmpB t f ≤ 0)) := rfl
  have hm := ht.max
  clear hf ht
  by_cases h0 : 0 < t.length
  · have q : (0 : Int) < (t.length : Int) := by omega
    rw [decide_eq_true h0, Bool.true_and] at hE
    have HE := Lib.hid hE
    generalize cmpB t f = c at *
    clear hE h0
    go_enter Try.func74, Try.ntmps74
    go_wp2_with fail
    refine HC.out.mono ?_
    rintro e w1 ⟨rfl, hw⟩
    subst hw
    go_wp2_with fail
    go_ret
    exact ⟨by rw [HE.out]; rfl, (by repeat' (first | (with_reducible exact Below.refl _ _) | (with_reducible assumption) | (with_reducible refine Below.drew ?_) | (with_reducible refine below_drewN ?_ _) | (with_reducible refine bel_alloc ?_ _) | (with_reducible refine Below.setCell ?_ ?_ _) | (with_reducible refine bel_call ?_ (by assumption)) | (simp <;> omega)))⟩
  · have h1 : t.length = 0 := by omega
    rw [decide_eq_false h0, Bool.false_and] at hE
    have HE := Lib.hid hE
    clear hE h0
    go_enter Try.func74, Try.ntmps74
    go_wp2_with fail
    go_ret
    exact ⟨by rw [HE.out]; rfl, (by repeat' (first | (with_reducible exact Below.refl _ _) | (with_reducible assumption) | (with_reducible refine Below.drew ?_) | (with_reducible refine below_drewN ?_ _) | (with_reducible refine bel_alloc ?_ _) | (with_reducible refine Below.setCell ?_ ?_ _) | (with_reducible refine bel_call ?_ (by assumption)) | (simp <;> omega)))⟩
set_option maxRecDepth 100000 in
set_option maxHeartbeats 2000000 in
theorem holds_any (fv tv kv : Value) (f t k : List Int) (w : World) (hf : IsB w fv f) (ht : IsB w tv t) (hk : IsB w kv k) : Calls Try.prog 44 #[.agg #[fv, tv], kv] w (Ret (.bool (holdsB (f, t) k)) w) := by
  obtain ⟨fo, fc, rfl, -, -, -⟩ := hf.form
  obtain ⟨to, tc, rfl, -, -, -⟩ := ht.form
  obtain ⟨ko, kc, rfl, -, -, -⟩ := hk.form
  have HC := Lib.hid (bcompare_any _ _ k f (w.alloc (.cells #[.slice fo f.length fc, .slice to t.length tc] 25)) (hk.alloc _) (hf.alloc _))
  have HD := Lib.hid (bcompare_any _ _ k t (w.alloc (.cells #[.slice fo f.length fc, .slice to t.length tc] 25)) (hk.alloc _) (ht.alloc _))
  have hE : holdsB (f, t) k = (decide (0 ≤ cmpB k f) && (decide (t.length = 0) || decide (cmpB k t < 0))) := rfl
  have hm := ht.max
  clear hf ht hk
  generalize cmpB k f = c at *
  generalize cmpB k t = d at *
  by_cases h0 : 0 ≤ c
  · rw [decide_eq_true h0, Bool.true_and] at hE
    have q : decide (0 ≤ c) = true := decide_eq_true h0
    by_cases h1 : t.length = 0
    · rw [decide_eq_true h1, Bool.true_or] at hE
      have HE := Lib.hid hE
      have q1 : ((t.length : Int) == 0) = true := by rw [h1]; rfl
      clear hE h0 h1
      go_enter Try.func44, Try.ntmps44
      go_wp2_with fail
      refine HC.out.mono ?_
      rintro e w1 ⟨rfl, hw⟩
      subst hw
      go_wp2_with fail
      go_ret
      exact ⟨by rw [HE.out]; rfl, (by repeat' (first | (with_reducible exact Below.refl _ _) | (with_reducible assumption) | (with_reducible refine Below.drew ?_) | (with_reducible refine below_drewN ?_ _) | (with_reducible refine bel_alloc ?_ _) | (with_reducible refine Below.setCell ?_ ?_ _) | (with_reducible refine bel_call ?_ (by assumption)) | (simp <;> omega)))⟩
    · rw [decide_eq_false h1, Bool.false_or] at hE
      have HE := Lib.hid hE
      have q1 : ((t.length : Int) == 0) = false := beq_eq_false_iff_ne.2 (by omega)
      clear hE h0 h1
      go_enter Try.func44, Try.ntmps44
      go_wp2_with fail
      refine HC.out.mono ?_
      rintro e w1 ⟨rfl, hw⟩
      subst hw
      go_wp2_with fail
      refine HD.out.mono ?_
      rintro e w1 ⟨rfl, hw⟩
      subst hw
      go_wp2_with fail
      go_ret
      exact ⟨by rw [HE.out]; rfl, (by repeat' (first | (with_reducible exact Below.refl _ _) | (with_reducible assumption) | (with_reducible refine Below.drew ?_) | (with_reducible refine below_drewN ?_ _) | (with_reducible refine bel_alloc ?_ _) | (with_reducible refine Below.setCell ?_ ?_ _) | (with_reducible refine bel_call ?_ (by assumption)) | (simp <;> omega)))⟩
  · rw [decide_eq_false h0, Bool.false_and] at hE
    have q : decide (0 ≤ c) = false := decide_eq_false h0
    have HE := Lib.hid hE
    clear hE h0
    go_enter Try.func44, Try.ntmps44
    go_wp2_with fail
    refine HC.out.mono ?_
    rintro e w1 ⟨rfl, hw⟩
    subst hw
    go_wp2_with fail
    go_ret
    exact ⟨by rw [HE.out]; rfl, (by repeat' (first | (with_reducible exact Below.refl _ _) | (with_reducible assumption) | (with_reducible refine Below.drew ?_) | (with_reducible refine below_drewN ?_ _) | (with_reducible refine bel_alloc ?_ _) | (with_reducible refine Below.setCell ?_ ?_ _) | (with_reducible refine bel_call ?_ (by assumption)) | (simp <;> omega)))⟩
theorem bel_of_drew {W w' : World} (h : Below W.drew.heap.size W.drew w') : Below W.heap.size W w' := (Below.refl W.heap.size W).drew.trans h
def CopiedP (f t : List Int) (w : World) (e : Ending) (w' : World) : Prop := ∃ fv tv, e = .returned (.agg #[fv, tv]) ∧ OwnS w' w.heap.size 5 fv f ∧ OwnS w' w.heap.size 5 tv t ∧ Below w.heap.size w w'
set_option maxRecDepth 100000 in
set_option maxHeartbeats 4000000 in
theorem copied_any (fv tv : Value) (f t : List Int) (w : World) (hf : IsB w fv f) (ht : IsB w tv t) (hlf : f.length ≤ 140737488355328) (hlt : t.length ≤ 140737488355328) : Calls Try.prog 46 #[.agg #[fv, tv]] w (CopiedP f t w) := by
  obtain ⟨fo, fc, rfl, -, -, -⟩ := hf.form
  obtain ⟨to, tc, rfl, -, -, -⟩ := ht.form
  have HF0 := Lib.hid ((hf.alloc (.cells #[.slice fo f.length fc, .slice to t.length tc] 25)).alloc (.cells #[.slice none 0 0, .slice none 0 0] 25))
  have HT0 := Lib.hid ((ht.alloc (.cells #[.slice fo f.length fc, .slice to t.length tc] 25)).alloc (.cells #[.slice none 0 0, .slice none 0 0] 25))
  have HLF := Lib.hid hlf
  have HLT := Lib.hid hlt
  clear hf ht hlf hlt
  go_enter Try.func46, Try.ntmps46
  go_wp2_with fail
  go_region_held3 (fun w' => w'.cell? ⟨w.heap.size, 0, none⟩ = some (.slice fo f.length fc) ∧ w'.cell? ⟨w.heap.size, 1, none⟩ = some (.slice to t.length tc)) (first | exact ⟨by assumption, by assumption⟩ | go_keep) (first
    | (go_at_call 73; have hc := (cloneB_any (.slice fo f.length fc) f ((w.alloc (.cells #[.slice fo f.length fc, .slice to t.length tc] 25)).alloc (.cells #[.slice none 0 0, .slice none 0 0] 25)).drew (show IsB ((w.alloc (.cells #[.slice fo f.length fc, .slice to t.length tc] 25)).alloc (.cells #[.slice none 0 0, .slice none 0 0] 25)) _ _ from HF0.out) HLF.out); with_reducible refine Calls.mono hc ?_; clear hc; unfold CloneP; rintro e wf ⟨v1, rfl, hv1, gf⟩; obtain ⟨vfo, vfc, rfl, -, -, -, -⟩ := hv1.form; have HV1 := Lib.hid hv1; have GF : Hid (Below ((w.alloc (.cells #[.slice fo f.length fc, .slice to t.length tc] 25)).alloc (.cells #[.slice none 0 0, .slice none 0 0] 25)).heap.size ((w.alloc (.cells #[.slice fo f.length fc, .slice to t.length tc] 25)).alloc (.cells #[.slice none 0 0, .slice none 0 0] 25)) wf) := Lib.hid (bel_of_drew gf); have A0 : wf.cell? ⟨w.heap.size + 1, 0, none⟩ = some (.slice none 0 0) := (GF.out.cell (p := ⟨w.heap.size + 1, 0, none⟩) (by simp)).trans (by go_simp); have A0f : wf.frozen? ⟨w.heap.size + 1, 0, none⟩ = false := (GF.out.frozen (p := ⟨w.heap.size + 1, 0, none⟩) (by simp)).trans (by go_simp); have A1 : wf.cell? ⟨w.heap.size + 1, 1, none⟩ = some (.slice none 0 0) := (GF.out.cell (p := ⟨w.heap.size + 1, 1, none⟩) (by simp)).trans (by go_simp); have A1f : wf.frozen? ⟨w.heap.size + 1, 1, none⟩ = false := (GF.out.frozen (p := ⟨w.heap.size + 1, 1, none⟩) (by simp)).trans (by go_simp); have C0 : wf.cell? ⟨w.heap.size, 0, none⟩ = some (.slice fo f.length fc) := (GF.out.cell (p := ⟨w.heap.size, 0, none⟩) (by simp <;> omega)).trans (by go_simp); have C1 : wf.cell? ⟨w.heap.size, 1, none⟩ = some (.slice to t.length tc) := (GF.out.cell (p := ⟨w.heap.size, 1, none⟩) (by simp <;> omega)).trans (by go_simp); clear hv1 gf)
    | (go_at_call 73; have hc := (cloneB_any (.slice to t.length tc) t ((w.alloc (.cells #[.slice fo f.length fc, .slice to t.length tc] 25)).alloc (.cells #[.slice none 0 0, .slice none 0 0] 25)).drew (show IsB ((w.alloc (.cells #[.slice fo f.length fc, .slice to t.length tc] 25)).alloc (.cells #[.slice none 0 0, .slice none 0 0] 25)) _ _ from HT0.out) HLT.out); with_reducible refine Calls.mono hc ?_; clear hc; unfold CloneP; rintro e wt ⟨v2, rfl, hv2, gt⟩; obtain ⟨vto, vtc, rfl, -, -, -, -⟩ := hv2.form; have HV2 := Lib.hid hv2; have GT : Hid (Below ((w.alloc (.cells #[.slice fo f.length fc, .slice to t.length tc] 25)).alloc (.cells #[.slice none 0 0, .slice none 0 0] 25)).heap.size ((w.alloc (.cells #[.slice fo f.length fc, .slice to t.length tc] 25)).alloc (.cells #[.slice none 0 0, .slice none 0 0] 25)) wt) := Lib.hid (bel_of_drew gt); have A0 : wt.cell? ⟨w.heap.size + 1, 0, none⟩ = some (.slice none 0 0) := (GT.out.cell (p := ⟨w.heap.size + 1, 0, none⟩) (by simp)).trans (by go_simp); have A0f : wt.frozen? ⟨w.heap.size + 1, 0, none⟩ = false := (GT.out.frozen (p := ⟨w.heap.size + 1, 0, none⟩) (by simp)).trans (by go_simp); have A1 : wt.cell? ⟨w.heap.size + 1, 1, none⟩ = some (.slice none 0 0) := (GT.out.cell (p := ⟨w.heap.size + 1, 1, none⟩) (by simp)).trans (by go_simp); have A1f : wt.frozen? ⟨w.heap.size + 1, 1, none⟩ = false := (GT.out.frozen (p := ⟨w.heap.size + 1, 1, none⟩) (by simp)).trans (by go_simp); have C0 : wt.cell? ⟨w.heap.size, 0, none⟩ = some (.slice fo f.length fc) := (GT.out.cell (p := ⟨w.heap.size, 0, none⟩) (by simp <;> omega)).trans (by go_simp); have C1 : wt.cell? ⟨w.heap.size, 1, none⟩ = some (.slice to t.length tc) := (GT.out.cell (p := ⟨w.heap.size, 1, none⟩) (by simp <;> omega)).trans (by go_simp); clear hv2 gt)
    | (go_at_call 73; have hc := (cloneB_any (.slice to t.length tc) t wf (HT0.out.below GF.out) HLT.out); with_reducible refine Calls.mono hc ?_; clear hc; unfold CloneP; rintro e wz ⟨v2, rfl, hv2, gz⟩; obtain ⟨vto, vtc, rfl, -, -, -, -⟩ := hv2.form; have HVT := Lib.hid (hv2.mono GF.out.size); have HVF := Lib.hid (HV1.out.below gz); have GZ := Lib.hid (bel_call GF.out gz); have A0 : wz.cell? ⟨w.heap.size + 1, 0, none⟩ = some (.slice none 0 0) := (GZ.out.cell (p := ⟨w.heap.size + 1, 0, none⟩) (by simp)).trans (by go_simp); have A0f : wz.frozen? ⟨w.heap.size + 1, 0, none⟩ = false := (GZ.out.frozen (p := ⟨w.heap.size + 1, 0, none⟩) (by simp)).trans (by go_simp); have A1 : wz.cell? ⟨w.heap.size + 1, 1, none⟩ = some (.slice none 0 0) := (GZ.out.cell (p := ⟨w.heap.size + 1, 1, none⟩) (by simp)).trans (by go_simp); have A1f : wz.frozen? ⟨w.heap.size + 1, 1, none⟩ = false := (GZ.out.frozen (p := ⟨w.heap.size + 1, 1, none⟩) (by simp)).trans (by go_simp); have C0 : wz.cell? ⟨w.heap.size, 0, none⟩ = some (.slice fo f.length fc) := (GZ.out.cell (p := ⟨w.heap.size, 0, none⟩) (by simp <;> omega)).trans (by go_simp); have C1 : wz.cell? ⟨w.heap.size, 1, none⟩ = some (.slice to t.length tc) := (GZ.out.cell (p := ⟨w.heap.size, 1, none⟩) (by simp <;> omega)).trans (by go_simp); clear hv2 gz)
    | (go_at_call 73; have hc := (cloneB_any (.slice fo f.length fc) f wt (HF0.out.below GT.out) HLF.out); with_reducible refine Calls.mono hc ?_; clear hc; unfold CloneP; rintro e wz ⟨v1, rfl, hv1, gz⟩; obtain ⟨vfo, vfc, rfl, -, -, -, -⟩ := hv1.form; have HVF := Lib.hid (hv1.mono GT.out.size); have HVT := Lib.hid (HV2.out.below gz); have GZ := Lib.hid (bel_call GT.out gz); have A0 : wz.cell? ⟨w.heap.size + 1, 0, none⟩ = some (.slice none 0 0) := (GZ.out.cell (p := ⟨w.heap.size + 1, 0, none⟩) (by simp)).trans (by go_simp); have A0f : wz.frozen? ⟨w.heap.size + 1, 0, none⟩ = false := (GZ.out.frozen (p := ⟨w.heap.size + 1, 0, none⟩) (by simp)).trans (by go_simp); have A1 : wz.cell? ⟨w.heap.size + 1, 1, none⟩ = some (.slice none 0 0) := (GZ.out.cell (p := ⟨w.heap.size + 1, 1, none⟩) (by simp)).trans (by go_simp); have A1f : wz.frozen? ⟨w.heap.size + 1, 1, none⟩ = false := (GZ.out.frozen (p := ⟨w.heap.size + 1, 1, none⟩) (by simp)).trans (by go_simp); have C0 : wz.cell? ⟨w.heap.size, 0, none⟩ = some (.slice fo f.length fc) := (GZ.out.cell (p := ⟨w.heap.size, 0, none⟩) (by simp <;> omega)).trans (by go_simp); have C1 : wz.cell? ⟨w.heap.size, 1, none⟩ = some (.slice to t.length tc) := (GZ.out.cell (p := ⟨w.heap.size, 1, none⟩) (by simp <;> omega)).trans (by go_simp); clear hv1 gz))
  all_goals (
    have hsA : wz.grownBy ((wz.setCell ⟨w.heap.size + 1, 0, none⟩ (.slice vfo f.length vfc)).setCell ⟨w.heap.size + 1, 1, none⟩ (.slice vto t.length vtc)) (some (w.heap.size + 1)) := gb_set (gb_set (gb_refl wz (some (w.heap.size + 1))) (.inl rfl) _) (.inl rfl) _
    have HSA := Lib.hid hsA
    clear hsA
    go_wp2_with fail
    have gw : Below w.heap.size w wz := bel_call (by repeat' (first | (with_reducible exact Below.refl _ _) | (with_reducible assumption) | (with_reducible refine Below.drew ?_) | (with_reducible refine below_drewN ?_ _) | (with_reducible refine bel_alloc ?_ _) | (with_reducible refine Below.setCell ?_ ?_ _) | (with_reducible refine bel_call ?_ (by assumption)) | (simp <;> omega))) GZ.out
    refine bodyPost_ret (v := .agg #[.slice vfo f.length vfc, .slice vto t.length vtc]) (by simp [results, Try.results46, go_sem]; go_simp) rfl ⟨_, _, rfl, ?_, ?_, ?_⟩
    · exact (HVF.out.kept HSA.out (.inr fun e => by have := (HVF.out.lt _ e).1; simp at this; omega)).mono (by simp; omega)
    · exact (HVT.out.kept HSA.out (.inr fun e => by have := (HVT.out.lt _ e).1; simp at this; omega)).mono (by simp; omega)
    · exact (gw.setCell (p := ⟨w.heap.size + 1, 0, none⟩) (by simp only; omega) _).setCell (p := ⟨w.heap.size + 1, 1, none⟩) (by simp only; omega) _)
theorem ownS_away {w w' : World} {base g : Nat} {e : TypeId} {v : Value} {l : List Int} (h : OwnS w base e v l) (hg : w.grownBy w' (some g)) (hb : g < base) : OwnS w' base e v l :=
  h.kept hg (.inr fun he => by have := (h.lt _ he).1; omega)
def OwnP (x : RangeD) (w : World) (e : Ending) (w' : World) : Prop := ∃ fv tv, e = .returned (.agg #[.int .i64 x.1, fv, tv, .int .i64 x.2.2.2]) ∧ OwnS w' w.heap.size 5 fv x.2.1 ∧ OwnS w' w.heap.size 5 tv x.2.2.1 ∧ Below w.heap.size w w'
set_option maxRecDepth 100000 in
set_option maxHeartbeats 4000000 in
theorem own_any (fv tv : Value) (id gen : Int) (f t : List Int) (w : World) (hf : IsB w fv f) (ht : IsB w tv t) (hlf : f.length ≤ 140737488355328) (hlt : t.length ≤ 140737488355328) : Calls Try.prog 61 #[.agg #[.int .i64 id, fv, tv, .int .i64 gen]] w (OwnP (id, f, t, gen) w) := by
  obtain ⟨fo, fc, rfl, -, -, -⟩ := hf.form
  obtain ⟨to, tc, rfl, -, -, -⟩ := ht.form
  have HF0 := (hf.alloc (.cells #[.int .i64 id, .slice fo f.length fc, .slice to t.length tc, .int .i64 gen] 39)).alloc (.cells #[.int .i64 0, .slice none 0 0, .slice none 0 0, .int .i64 0] 39)
  have HT0 := (ht.alloc (.cells #[.int .i64 id, .slice fo f.length fc, .slice to t.length tc, .int .i64 gen] 39)).alloc (.cells #[.int .i64 0, .slice none 0 0, .slice none 0 0, .int .i64 0] 39)
  have HC := Lib.hid (copied_any _ _ f t _ HF0 HT0 hlf hlt)
  unfold CopiedP at HC
  clear hf ht HF0 HT0 hlf hlt
  go_enter Try.func61, Try.ntmps61
  go_wp2_with fail
  refine HC.out.mono ?_
  rintro e w1 ⟨v1, v2, rfl, h1, h2, hb⟩
  have H1 := Lib.hid h1
  have H2 := Lib.hid h2
  have HBB := Lib.hid hb
  obtain ⟨fo1, fc1, rfl, -, -, -, -⟩ := h1.form
  obtain ⟨to1, tc1, rfl, -, -, -, -⟩ := h2.form
  replace k0 : w1.cell? ⟨w.heap.size, 0, none⟩ = some (.int .i64 id) := (hb.cell (p := ⟨w.heap.size, 0, none⟩) (by simp <;> omega)).trans (by go_simp); replace k0f : w1.frozen? ⟨w.heap.size, 0, none⟩ = false := (hb.frozen (p := ⟨w.heap.size, 0, none⟩) (by simp <;> omega)).trans (by go_simp); replace k1 : w1.cell? ⟨w.heap.size, 1, none⟩ = some (.slice fo f.length fc) := (hb.cell (p := ⟨w.heap.size, 1, none⟩) (by simp <;> omega)).trans (by go_simp); replace k1f : w1.frozen? ⟨w.heap.size, 1, none⟩ = false := (hb.frozen (p := ⟨w.heap.size, 1, none⟩) (by simp <;> omega)).trans (by go_simp); replace k2 : w1.cell? ⟨w.heap.size, 2, none⟩ = some (.slice to t.length tc) := (hb.cell (p := ⟨w.heap.size, 2, none⟩) (by simp <;> omega)).trans (by go_simp); replace k2f : w1.frozen? ⟨w.heap.size, 2, none⟩ = false := (hb.frozen (p := ⟨w.heap.size, 2, none⟩) (by simp <;> omega)).trans (by go_simp); replace k3 : w1.cell? ⟨w.heap.size, 3, none⟩ = some (.int .i64 gen) := (hb.cell (p := ⟨w.heap.size, 3, none⟩) (by simp <;> omega)).trans (by go_simp); replace k3f : w1.frozen? ⟨w.heap.size, 3, none⟩ = false := (hb.frozen (p := ⟨w.heap.size, 3, none⟩) (by simp <;> omega)).trans (by go_simp); replace k4 : w1.cell? ⟨w.heap.size + 1, 0, none⟩ = some (.int .i64 0) := (hb.cell (p := ⟨w.heap.size + 1, 0, none⟩) (by simp <;> omega)).trans (by go_simp); replace k4f : w1.frozen? ⟨w.heap.size + 1, 0, none⟩ = false := (hb.frozen (p := ⟨w.heap.size + 1, 0, none⟩) (by simp <;> omega)).trans (by go_simp); replace k5 : w1.cell? ⟨w.heap.size + 1, 1, none⟩ = some (.slice none 0 0) := (hb.cell (p := ⟨w.heap.size + 1, 1, none⟩) (by simp <;> omega)).trans (by go_simp); replace k5f : w1.frozen? ⟨w.heap.size + 1, 1, none⟩ = false := (hb.frozen (p := ⟨w.heap.size + 1, 1, none⟩) (by simp <;> omega)).trans (by go_simp); replace k6 : w1.cell? ⟨w.heap.size + 1, 2, none⟩ = some (.slice none 0 0) := (hb.cell (p := ⟨w.heap.size + 1, 2, none⟩) (by simp <;> omega)).trans (by go_simp); replace k6f : w1.frozen? ⟨w.heap.size + 1, 2, none⟩ = false := (hb.frozen (p := ⟨w.heap.size + 1, 2, none⟩) (by simp <;> omega)).trans (by go_simp); replace k7 : w1.cell? ⟨w.heap.size + 1, 3, none⟩ = some (.int .i64 0) := (hb.cell (p := ⟨w.heap.size + 1, 3, none⟩) (by simp <;> omega)).trans (by go_simp); replace k7f : w1.frozen? ⟨w.heap.size + 1, 3, none⟩ = false := (hb.frozen (p := ⟨w.heap.size + 1, 3, none⟩) (by simp <;> omega)).trans (by go_simp)
  have z1 : w.heap.size + 1 < w1.heap.size := by have := hb.size; simp at this; omega
  have gw : Below w.heap.size w w1 := bel_call (by repeat' (first | (with_reducible exact Below.refl _ _) | (with_reducible assumption) | (with_reducible refine Below.drew ?_) | (with_reducible refine below_drewN ?_ _) | (with_reducible refine bel_alloc ?_ _) | (with_reducible refine Below.setCell ?_ ?_ _) | (with_reducible refine bel_call ?_ (by assumption)) | (simp <;> omega))) HBB.out
  have GW := Lib.hid gw
  clear h1 h2 hb gw
  have hs1 := gb_set (gb_set (gb_refl w1 (some w.heap.size)) (p := ⟨w.heap.size, 1, none⟩) (.inl rfl) (.slice fo1 f.length fc1)) (p := ⟨w.heap.size, 2, none⟩) (.inl rfl) (.slice to1 t.length tc1)
  have hs2 := gb_set (gb_set (gb_set (gb_set (gb_refl ((w1.setCell ⟨w.heap.size, 1, none⟩ (.slice fo1 f.length fc1)).setCell ⟨w.heap.size, 2, none⟩ (.slice to1 t.length tc1)) (some (w.heap.size + 1))) (p := ⟨w.heap.size + 1, 0, none⟩) (.inl rfl) (.int .i64 id)) (p := ⟨w.heap.size + 1, 1, none⟩) (.inl rfl) (.slice fo1 f.length fc1)) (p := ⟨w.heap.size + 1, 2, none⟩) (.inl rfl) (.slice to1 t.length tc1)) (p := ⟨w.heap.size + 1, 3, none⟩) (.inl rfl) (.int .i64 gen)
  have HS1 := Lib.hid hs1
  have HS2 := Lib.hid hs2
  clear hs1 hs2
  go_wp2_with fail
  refine bodyPost_ret (v := .agg #[.int .i64 id, .slice fo1 f.length fc1, .slice to1 t.length tc1, .int .i64 gen]) (by simp [results, Try.results61, go_sem]; go_simp) rfl ⟨_, _, rfl, ?_, ?_, ?_⟩
  · exact (ownS_away (ownS_away H1.out HS1.out (by simp; omega)) HS2.out (by simp)).mono (by simp; omega)
  · exact (ownS_away (ownS_away H2.out HS1.out (by simp; omega)) HS2.out (by simp)).mono (by simp; omega)
  · exact (((((GW.out.setCell (p := ⟨w.heap.size, 1, none⟩) (Nat.le_refl _) _).setCell (p := ⟨w.heap.size, 2, none⟩) (Nat.le_refl _) _).setCell (p := ⟨w.heap.size + 1, 0, none⟩) (by simp only; omega) _).setCell (p := ⟨w.heap.size + 1, 1, none⟩) (by simp only; omega) _).setCell (p := ⟨w.heap.size + 1, 2, none⟩) (by simp only; omega) _).setCell (p := ⟨w.heap.size + 1, 3, none⟩) (by simp only; omega) _
set_option maxRecDepth 100000 in
set_option maxHeartbeats 4000000 in
theorem right_any (fv tv : Value) (id gen : Int) (f t : List Int) (w : World) (hf : IsB w fv f) (ht : IsB w tv t) : Calls Try.prog 54 #[.agg #[.int .i64 id, fv, tv, .int .i64 gen]] w (Ret (.bool (rightB (id, f, t, gen))) w) := by
  obtain ⟨fo, fc, rfl, -, -, -⟩ := hf.form
  obtain ⟨to, tc, rfl, -, -, -⟩ := ht.form
  have HE := Lib.hid (empty_any _ _ f t _ (hf.alloc (.cells #[.int .i64 id, .slice fo f.length fc, .slice to t.length tc, .int .i64 gen] 39)) (ht.alloc (.cells #[.int .i64 id, .slice fo f.length fc, .slice to t.length tc, .int .i64 gen] 39)))
  have hR : rightB (id, f, t, gen) = (decide (1 ≤ id) && decide (id ≤ 255) && decide (1 ≤ gen) && decide (gen ≤ 9007199254740991) && decide (f.length ≤ 110) && decide (t.length ≤ 110) && !emptyB (f, t)) := rfl
  have hmf := hf.max
  have hmt := ht.max
  clear hf ht
  generalize emptyB (f, t) = E at *
  by_cases c0 : id < 1
  · have e0 : decide (id < 1) = true := decide_eq_true c0
    have HR : Hid (rightB (id, f, t, gen) = false) := Lib.hid (by rw [hR]; simp; omega)
    clear hR
    clear c0
    go_enter Try.func54, Try.ntmps54
    go_wp2_with fail
    go_ret
    exact ⟨by rw [HR.out]; rfl, (by repeat' (first | (with_reducible exact Below.refl _ _) | (with_reducible assumption) | (with_reducible refine Below.drew ?_) | (with_reducible refine below_drewN ?_ _) | (with_reducible refine bel_alloc ?_ _) | (with_reducible refine Below.setCell ?_ ?_ _) | (with_reducible refine bel_call ?_ (by assumption)) | (simp <;> omega)))⟩
  · have e0 : decide (id < 1) = false := decide_eq_false c0
    by_cases c1 : 255 < id
    · have e1 : decide (255 < id) = true := decide_eq_true c1
      have HR : Hid (rightB (id, f, t, gen) = false) := Lib.hid (by rw [hR]; simp; omega)
      clear hR
      clear c1
      go_enter Try.func54, Try.ntmps54
      go_wp2_with fail
      go_ret
      exact ⟨by rw [HR.out]; rfl, (by repeat' (first | (with_reducible exact Below.refl _ _) | (with_reducible assumption) | (with_reducible refine Below.drew ?_) | (with_reducible refine below_drewN ?_ _) | (with_reducible refine bel_alloc ?_ _) | (with_reducible refine Below.setCell ?_ ?_ _) | (with_reducible refine bel_call ?_ (by assumption)) | (simp <;> omega)))⟩
    · have e1 : decide (255 < id) = false := decide_eq_false c1
      by_cases c2 : gen < 1
      · have e2 : decide (gen < 1) = true := decide_eq_true c2
        have HR : Hid (rightB (id, f, t, gen) = false) := Lib.hid (by rw [hR]; simp; omega)
        clear hR
        clear c2
        go_enter Try.func54, Try.ntmps54
        go_wp2_with fail
        go_ret
        exact ⟨by rw [HR.out]; rfl, (by repeat' (first | (with_reducible exact Below.refl _ _) | (with_reducible assumption) | (with_reducible refine Below.drew ?_) | (with_reducible refine below_drewN ?_ _) | (with_reducible refine bel_alloc ?_ _) | (with_reducible refine Below.setCell ?_ ?_ _) | (with_reducible refine bel_call ?_ (by assumption)) | (simp <;> omega)))⟩
      · have e2 : decide (gen < 1) = false := decide_eq_false c2
        by_cases c3 : 9007199254740991 < gen
        · have e3 : decide (9007199254740991 < gen) = true := decide_eq_true c3
          have HR : Hid (rightB (id, f, t, gen) = false) := Lib.hid (by rw [hR]; simp; omega)
          clear hR
          clear c3
          go_enter Try.func54, Try.ntmps54
          go_wp2_with fail
          go_ret
          exact ⟨by rw [HR.out]; rfl, (by repeat' (first | (with_reducible exact Below.refl _ _) | (with_reducible assumption) | (with_reducible refine Below.drew ?_) | (with_reducible refine below_drewN ?_ _) | (with_reducible refine bel_alloc ?_ _) | (with_reducible refine Below.setCell ?_ ?_ _) | (with_reducible refine bel_call ?_ (by assumption)) | (simp <;> omega)))⟩
        · have e3 : decide (9007199254740991 < gen) = false := decide_eq_false c3
          by_cases c4 : f.length ≤ 110
          · have e4 : decide ((f.length : Int) ≤ 110) = true := by rw [decide_eq_true_iff]; omega
            by_cases c5 : t.length ≤ 110
            · have e5 : decide ((t.length : Int) ≤ 110) = true := by rw [decide_eq_true_iff]; omega
              have HR : Hid (rightB (id, f, t, gen) = !E) := Lib.hid (by rw [hR, decide_eq_true (show 1 ≤ id by omega), decide_eq_true (show id ≤ 255 by omega), decide_eq_true (show 1 ≤ gen by omega), decide_eq_true (show gen ≤ 9007199254740991 by omega), decide_eq_true c4, decide_eq_true c5]; simp)
              clear hR c0 c1 c2 c3 c4 c5
              go_enter Try.func54, Try.ntmps54
              go_wp2_with fail
              refine HE.out.mono ?_
              rintro e w1 ⟨rfl, hb⟩
              have GG : Hid (Below w.heap.size w w1) := Lib.hid (bel_call (bel_alloc (Below.refl _ w) _) hb)
              clear hb
              go_wp2_with fail
              go_ret
              exact ⟨by rw [HR.out]; rfl, GG.out⟩
            · have e5 : decide ((t.length : Int) ≤ 110) = false := by rw [decide_eq_false_iff_not]; omega
              have HR : Hid (rightB (id, f, t, gen) = false) := Lib.hid (by rw [hR]; simp; omega)
              clear hR
              clear c0 c1 c2 c3 c4 c5
              go_enter Try.func54, Try.ntmps54
              go_wp2_with fail
              go_ret
              exact ⟨by rw [HR.out]; rfl, (by repeat' (first | (with_reducible exact Below.refl _ _) | (with_reducible assumption) | (with_reducible refine Below.drew ?_) | (with_reducible refine below_drewN ?_ _) | (with_reducible refine bel_alloc ?_ _) | (with_reducible refine Below.setCell ?_ ?_ _) | (with_reducible refine bel_call ?_ (by assumption)) | (simp <;> omega)))⟩
          · have e4 : decide ((f.length : Int) ≤ 110) = false := by rw [decide_eq_false_iff_not]; omega
            have HR : Hid (rightB (id, f, t, gen) = false) := Lib.hid (by rw [hR]; simp; omega)
            clear hR
            clear c0 c1 c2 c3 c4
            go_enter Try.func54, Try.ntmps54
            go_wp2_with fail
            go_ret
            exact ⟨by rw [HR.out]; rfl, (by repeat' (first | (with_reducible exact Below.refl _ _) | (with_reducible assumption) | (with_reducible refine Below.drew ?_) | (with_reducible refine below_drewN ?_ _) | (with_reducible refine bel_alloc ?_ _) | (with_reducible refine Below.setCell ?_ ?_ _) | (with_reducible refine bel_call ?_ (by assumption)) | (simp <;> omega)))⟩
end Rm
end Go.Proofs.Ytbeniogffhihlaa
