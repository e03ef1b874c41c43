/- memtable: the reference's table as the call's own; New. -/
import Derived.Test.YtgkgfghmpimaoaaMt20
set_option linter.unusedVariables false
set_option linter.unusedSimpArgs false
namespace Go.Proofs.Ytgkgfghmpimaoaa
open Go.RowKit
namespace Mt
abbrev RV : Type := (En × Nat) × Value × Value
def c5 (r : RV) : List Value := [r.2.1, .int .u64 r.1.1.2.1, .bool r.1.1.2.2.1, r.2.2, .int .i64 r.1.2]
theorem c5_len (r : RV) : (c5 r).length = 5 := rfl
def OwnR (w : World) (r : RV) : Prop := OwnS w 0 5 r.2.1 r.1.1.1 ∧ OwnS w 0 5 r.2.2 r.1.1.2.2.2 ∧ U64 r.1.1.2.1
def InR (S : Nat → Prop) (r : RV) : Prop := (∀ b, r.2.1.ownBlock = some b → S b) ∧ ∀ b, r.2.2.ownBlock = some b → S b
structure RefS (S : Nat → Prop) (w : World) (rb : Nat) (hs : List Int) (P : Pl) (hv lv : Value) (rs : List RV) : Prop where
  obj : w.heap[rb]? = some (.cells #[hv, lv] 62 (0, 0))
  oh : w.ownsRow 0 3 1 hv hs.length (hs.map (Value.int .i64))
  ol : w.ownsRow 0 70 5 lv rs.length (rs.flatMap c5)
  eq : rs.map (·.1) = P
  el : ∀ r ∈ rs, OwnR w r
  sb : ∀ r ∈ rs, InR S r
  sh : ∀ b, hv.ownBlock = some b → S b
  sl : ∀ b, lv.ownBlock = some b → S b
  sr : S rb
  lt : ∀ b, S b → b < w.heap.size
  hI : ∀ h ∈ hs, I64 h
  asc : Asc (P.map (·.1))
  each : ∀ p ∈ P, mayB p.1 = true ∧ 1 ≤ p.2 ∧ p.2 ≤ 12
  len : P.length ≤ 1000
theorem RefS.keep {S : Nat → Prop} {w w' : World} {rb : Nat} {hs : List Int} {P : Pl} {hv lv : Value} {rs : List RV} (h : RefS S w rb hs P hv lv rs) (c : Chg (fun b => ¬ S b) w w') : RefS S w' rb hs P hv lv rs :=
  ⟨(c.block _ (Array.getElem?_eq_some_iff.1 h.obj).1 (fun q => q h.sr)).trans h.obj, c.own h.oh (fun b hb q => q (h.sh b hb)), c.own h.ol (fun b hb q => q (h.sl b hb)), h.eq,
    fun r hr => ⟨c.ownS (h.el r hr).1 (fun b hb q => q ((h.sb r hr).1 b hb)), c.ownS (h.el r hr).2.1 (fun b hb q => q ((h.sb r hr).2 b hb)), (h.el r hr).2.2⟩,
    h.sb, h.sh, h.sl, h.sr, fun b hb => Nat.lt_of_lt_of_le (h.lt b hb) c.size, h.hI, h.asc, h.each, h.len⟩
theorem isI_own {w : World} {base : Nat} {v : Value} {l : List Int} (h : w.ownsRow base 3 1 v l.length (l.map (Value.int .i64))) (hI : ∀ x ∈ l, I64 x) : IsI w v l := by
  obtain ⟨ao, cap, rfl, h1, h2, h3, h4⟩ := own_form h
  refine ⟨ao, cap, rfl, h1, by unfold maxLen; omega, fun hn => ⟨List.eq_nil_of_length_eq_zero (h3 hn).1, (h3 hn).2⟩, fun i x hx => ?_⟩
  have hc : (l.map (Value.int .i64))[i]? = some (.int .i64 x) := by rw [List.getElem?_map, hx]; rfl
  obtain ⟨g, hao, hbg, hgl, hcell⟩ := own_cell h hc
  subst hao
  refine ⟨g, 0, [.int .i64 x], rfl, hgl, rfl, fun j u hu => ?_, rfl, hI x (List.mem_of_getElem? hx)⟩
  cases j with
  | zero =>
    simp only [List.getElem?_cons_zero, Option.some.injEq] at hu
    subst hu
    simpa using hcell
  | succ j => simp at hu
theorem isNs_own {w : World} {base : Nat} {v : Value} {rs : List RV} (ho : w.ownsRow base 70 5 v rs.length (rs.flatMap c5)) (hg : ∀ r ∈ rs, OwnR w r) : IsNs w v (rs.map (·.1)) := by
  obtain ⟨ao, cap, rfl, h1, h2, h3, h4⟩ := own_form ho
  refine ⟨ao, cap, by rw [List.length_map], by rw [List.length_map]; exact h1, by unfold maxLen; omega, fun hn => ⟨List.eq_nil_of_length_eq_zero (by rw [List.length_map]; exact (h3 hn).1), (h3 hn).2⟩, fun i x hx => ?_⟩
  rw [List.getElem?_map, Option.map_eq_some_iff] at hx
  obtain ⟨r, hr, rfl⟩ := hx
  have hrm := List.mem_of_getElem? hr
  have hc : ∀ j u, (c5 r)[j]? = some u → (rs.flatMap c5)[i * 5 + j]? = some u := fun j u hu => by
    rw [flat_get c5_len rs i j r hr (by have := (List.getElem?_eq_some_iff.1 hu).1; rwa [c5_len] at this)]; exact hu
  obtain ⟨g, hao, hbg, hgl, hcell⟩ := own_cell ho (hc 0 _ rfl)
  subst hao
  refine ⟨g, 0, c5 r, rfl, hgl, rfl, fun j u hu => ?_, r.2.1, r.2.2, rfl, (hg r hrm).1.isB, (hg r hrm).2.1.isB, (hg r hrm).2.2⟩
  rw [Nat.zero_add]
  exact own_cell' ho (hc j u hu)
theorem RefS.r {S : Nat → Prop} {w : World} {rb : Nat} {hs : List Int} {P : Pl} {hv lv : Value} {rs : List RV} (h : RefS S w rb hs P hv lv rs) : RefR w rb hs P hv lv :=
  ⟨by rw [cell_of_row _ _ _ _ _ _ h.obj]; rfl, by rw [cell_of_row _ _ _ _ _ _ h.obj]; rfl, isI_own h.oh h.hI, by rw [← h.eq]; exact isNs_own h.ol h.el, h.asc, h.each, h.len⟩
def RefP (S : Nat → Prop) (w : World) (rb : Nat) (hs : List Int) (P : Pl) : Prop := ∃ hv lv rs, RefS S w rb hs P hv lv rs
theorem RefP.keep {S : Nat → Prop} {w w' : World} {rb : Nat} {hs : List Int} {P : Pl} (h : RefP S w rb hs P) (c : Chg (fun b => ¬ S b) w w') : RefP S w' rb hs P := by
  obtain ⟨hv, lv, rs, h⟩ := h
  exact ⟨hv, lv, rs, h.keep c⟩
theorem RefP.below {S : Nat → Prop} {w w' : World} {rb : Nat} {hs : List Int} {P : Pl} (h : RefP S w rb hs P) (c : Below w.heap.size w w') : RefP S w' rb hs P := h.keep (.of_ext c)
theorem RefP.lt {S : Nat → Prop} {w : World} {rb : Nat} {hs : List Int} {P : Pl} (h : RefP S w rb hs P) : ∀ b, S b → b < w.heap.size := by
  obtain ⟨hv, lv, rs, h⟩ := h
  exact h.lt
theorem RefP.r {S : Nat → Prop} {w : World} {rb : Nat} {hs : List Int} {P : Pl} (h : RefP S w rb hs P) : ∃ hv lv, RefR w rb hs P hv lv := by
  obtain ⟨hv, lv, rs, h⟩ := h
  exact ⟨hv, lv, h.r⟩
def RNewQ (hs : List Int) (w : World) (e : Ending) (w' : World) : Prop := ∃ rb, e = .returned (.pointer (some ⟨rb, 0, none⟩)) ∧ RefP (fun k => w.heap.size ≤ k ∧ k < w'.heap.size) w' rb hs [] ∧ Below w.heap.size w w'
theorem rnew_of {w wy : World} {hs : List Int} {hv : Value} (hI : ∀ h ∈ hs, I64 h) (B : Below w.heap.size w wy) (ho : wy.ownsRow w.heap.size 3 1 hv hs.length (hs.map (Value.int .i64))) (hb : wy.heap[w.heap.size]? = some (.cells #[.slice none 0 0, .slice none 0 0] 62 (0, 0))) :
    RNewQ hs w (.returned (.pointer (some ⟨w.heap.size, 0, none⟩))) (wy.setCell ⟨w.heap.size, 0, none⟩ hv) := by
  have c : Chg (fun b => b = w.heap.size) wy (wy.setCell ⟨w.heap.size, 0, none⟩ hv) := (Chg.refl (fun b => b = w.heap.size) wy).set (p := ⟨w.heap.size, 0, none⟩) (fun _ => rfl) hv
  have hlt := (Array.getElem?_eq_some_iff.1 hb).1
  have hob : (wy.setCell ⟨w.heap.size, 0, none⟩ hv).heap[w.heap.size]? = some (.cells #[hv, .slice none 0 0] 62 (0, 0)) := by
    rw [heap_setCell_same wy w.heap.size 0 _ _ _ hb]
    rfl
  have hne : ∀ b, hv.ownBlock = some b → ¬ b = w.heap.size := fun b hb9 e => by
    obtain ⟨-, -, cu, hc⟩ := own_typed ho b hb9
    rw [e, hb] at hc
    cases hc
  refine ⟨w.heap.size, rfl, ⟨hv, .slice none 0 0, [], hob, own_mono (c.own ho hne) (Nat.zero_le _), World.ownsRow_nil _ _ _ _, rfl, fun r hr => (by cases hr), fun r hr => (by cases hr), fun b hb9 => ?_, fun b hb9 => (by cases hb9), ⟨Nat.le_refl _, ?_⟩, fun b hb9 => hb9.2, hI, List.Pairwise.nil, fun p hp => (by cases hp), (by simp)⟩, B.setCell (p := ⟨w.heap.size, 0, none⟩) (Nat.le_refl _) _⟩
  · have := ho.lt b hb9
    exact ⟨this.1, by simpa using this.2⟩
  · simpa using hlt
set_option maxRecDepth 100000 in
set_option maxHeartbeats 4000000 in
theorem rnew_any (v : Value) (hs : List Int) (w : World) (h : IsI w v hs) (hl : hs.length ≤ 17592186044416) : Calls Try.prog 8 #[v] w (RNewQ hs w) := by
  obtain ⟨i0, hi0, hz0, hz1, hz2⟩ := info_parts infoI
  have HI := Lib.hid hi0; have HZ0 := Lib.hid hz0; have HZ1 := Lib.hid hz1; have HZ2 := Lib.hid hz2
  have HB := Lib.hid h
  have HR := Lib.hid h.rng
  have HL := Lib.hid hl
  obtain ⟨ao, cap, rfl, -, -, -⟩ := h.form
  clear hi0 hz0 hz1 hz2 h hl
  go_enter Try.func8, Try.ntmps8
  go_wp2_with (at_builtin; refine wpList_append_slc (w := w.alloc (.cells #[.slice none 0 0, .slice none 0 0] 62)) (base := w.heap.size) (n := 0) (xs := []) (.tmp 10) (.tmp 11) _ rfl rfl i0 _ 8 Try.underlying22 HI.out HZ0.out HZ1.out HZ2.out rfl (by decide) _ hs.length (hs.map (Value.int .i64)) rfl rfl (World.ownsRow_nil _ _ _ _) (IsI.slc (HB.out.alloc inR_stays _)) (ints_oneCell _ _) (by have := HL.out; unfold maxLen; omega) (by have := HL.out; omega) (by simp) ?_; intro v2 w2 hown2 hb2; have HO2 : Hid (w2.ownsRow w.heap.size 3 1 v2 hs.length (hs.map (Value.int .i64))) := Lib.hid (by simpa using hown2); have gb2 : Below (w.alloc (.cells #[.slice none 0 0, .slice none 0 0] 62)).heap.size (w.alloc (.cells #[.slice none 0 0, .slice none 0 0] 62)) w2 := below_own hb2 (Nat.le_refl _) (fun k hk => by cases hk); have G2 : Hid (Below w.heap.size w w2) := Lib.hid (bel_call (bel_alloc (Below.refl _ w) _) gb2); have hob := (gb2.block w.heap.size (by simp)).trans (heap_alloc_new w (.cells #[.slice none 0 0, .slice none 0 0] 62)); have OB := Lib.hid hob; have t0 : w2.cell? ⟨w.heap.size, 0, none⟩ = some (.slice none 0 0) := (by rw [cell_of_row _ _ _ _ _ _ hob]; rfl); have tf0 : w2.frozen? ⟨w.heap.size, 0, none⟩ = false := frozen_of_row _ _ _ _ _ hob; obtain ⟨vo2, vc2, rfl, -, -, -, -⟩ := own_form HO2.out; clear hown2 hb2 gb2 hob)
  go_ret
  exact rnew_of HR.out G2.out HO2.out OB.out
end Mt
end Go.Proofs.Ytgkgfghmpimaoaa
