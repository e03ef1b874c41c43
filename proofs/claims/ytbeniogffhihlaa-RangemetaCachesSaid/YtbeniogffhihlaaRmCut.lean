/- rangemeta: the parts of a span. -/
import Derived.Test.YtbeniogffhihlaaRmMeet
import Derived.Test.YtbeniogffhihlaaRegT
set_option linter.unusedVariables false
set_option linter.unusedSimpArgs false
namespace Go.Proofs.Ytbeniogffhihlaa
open Go.RowKit
namespace Rm
abbrev PartD : Type := RangeD × SpanD
def ptR (w : World) (cs : List Value) (x : PartD) : Prop := ∃ fv tv sf st, cs = [.int .i64 x.1.1, fv, tv, .int .i64 x.1.2.2.2, sf, st] ∧ IsB w fv x.1.2.1 ∧ IsB w tv x.1.2.2.1 ∧ IsB w sf x.2.1 ∧ IsB w st x.2.2
theorem ptR_stays : Stays ptR := fun _w _w' _cs _x hb ⟨fv, tv, sf, st, h1, h2, h3, h4, h5⟩ => ⟨fv, tv, sf, st, h1, h2.below hb, h3.below hb, h4.below hb, h5.below hb⟩
abbrev IsPts (w : World) (v : Value) (l : List PartD) : Prop := IsL 6 ptR w v l
theorem IsPts.at6 {w : World} {ao : Option Addr} {n cap k : Nat} {l : List PartD} (h : IsPts w (.slice ao n cap) l) (hk : k < l.length) :
    ∃ b o x fv tv sf st, ao = some ⟨b, o, none⟩ ∧ b < w.heap.size ∧ Hid (l[k]? = some x) ∧ w.cell? ⟨b, o + k * 6, none⟩ = some (.int .i64 x.1.1) ∧ w.cell? ⟨b, o + k * 6 + 1, none⟩ = some fv ∧ w.cell? ⟨b, o + k * 6 + 2, none⟩ = some tv ∧
      w.cell? ⟨b, o + k * 6 + 3, none⟩ = some (.int .i64 x.1.2.2.2) ∧ w.cell? ⟨b, o + k * 6 + 4, none⟩ = some sf ∧ w.cell? ⟨b, o + k * 6 + 5, none⟩ = some st ∧ Hid (IsB w fv x.1.2.1) ∧ Hid (IsB w tv x.1.2.2.1) ∧ Hid (IsB w sf x.2.1) ∧ Hid (IsB w st x.2.2) := by
  obtain ⟨b, o, x, cs, h1, h2, h3, h4, h5, fv, tv, sf, st, rfl, h6, h7, h8, h9⟩ := h.at_ hk
  exact ⟨b, o, x, fv, tv, sf, st, h1, h2, h3, h5.out 0 _ rfl, h5.out 1 _ rfl, h5.out 2 _ rfl, h5.out 3 _ rfl, h5.out 4 _ rfl, h5.out 5 _ rfl, h6, h7, h8, h9⟩
abbrev PV : Type := PartD × (Value × Value) × (Value × Value)
def cells6 (p : PV) : List Value := [.int .i64 p.1.1.1, p.2.1.1, p.2.1.2, .int .i64 p.1.1.2.2.2, p.2.2.1, p.2.2.2]
theorem cells6_len (p : PV) : (cells6 p).length = 6 := rfl
/-- its bytes stand in this world -/
def PtB (w : World) (p : PV) : Prop := IsB w p.2.1.1 p.1.1.2.1 ∧ IsB w p.2.1.2 p.1.1.2.2.1 ∧ IsB w p.2.2.1 p.1.2.1 ∧ IsB w p.2.2.2 p.1.2.2
def PtS (w : World) (base : Nat) (p : PV) : Prop := OwnS w base 5 p.2.1.1 p.1.1.2.1 ∧ OwnS w base 5 p.2.1.2 p.1.1.2.2.1 ∧ OwnS w base 5 p.2.2.1 p.1.2.1 ∧ OwnS w base 5 p.2.2.2 p.1.2.2
theorem PtS.b {w : World} {base : Nat} {p : PV} (h : PtS w base p) : PtB w p := ⟨h.1.isB, h.2.1.isB, h.2.2.1.isB, h.2.2.2.isB⟩
theorem PtS.below {w w1 : World} {base : Nat} {p : PV} (h : PtS w base p) (k : Below w.heap.size w w1) : PtS w1 base p := ⟨h.1.below k, h.2.1.below k, h.2.2.1.below k, h.2.2.2.below k⟩
theorem PtS.mono {w : World} {base b' : Nat} {p : PV} (h : PtS w base p) (k : b' ≤ base) : PtS w b' p := ⟨h.1.mono k, h.2.1.mono k, h.2.2.1.mono k, h.2.2.2.mono k⟩
theorem PtS.grown {w w1 : World} {base bs : Nat} {p : PV} {v : Value} {n : Nat} {xs : List Value} (h : PtS w base p) (ho : w.ownsRow bs 52 6 v n xs) (k : w.grownBy w1 v.ownBlock) : PtS w1 base p := by
  have hc : Chg (fun b => v.ownBlock = some b) w w1 := Chg.of_grown k (S := fun b => v.ownBlock = some b) (fun _ _ h => h)
  have hS : ∀ b cur, w.heap[b]? = some (.cells cur 5 (0, 0)) → ¬ v.ownBlock = some b := fun b cur hb hv => by
    obtain ⟨-, -, c, hc⟩ := own_typed ho b hv
    exact absurd (types_apart hc hb) (by decide)
  have one : ∀ {u l}, OwnS w base 5 u l → OwnS w1 base 5 u l := fun hu => hc.ownS hu (fun b hb => by obtain ⟨c, hc⟩ := hu.typed b hb; exact hS b c hc)
  exact ⟨one h.1, one h.2.1, one h.2.2.1, one h.2.2.2⟩
theorem isPts_of_row {w : World} {base n cap : Nat} {ao : Option Addr} {ps : List PV} (ho : w.ownsRow base 52 6 (.slice ao n cap) ps.length (ps.flatMap cells6)) (hg : ∀ p ∈ ps, PtB w p) : IsPts w (.slice ao ps.length cap) (ps.map (·.1)) ∧ IsPts w (.slice ao ps.length ps.length) (ps.map (·.1)) := by
  obtain ⟨ao', cap', hv, h1, h2, h3, h4⟩ := own_form ho
  simp only [Value.slice.injEq] at hv
  obtain ⟨rfl, rfl, rfl⟩ := hv
  have hel : ∀ i x, (ps.map (·.1))[i]? = some x → ∃ b o cs, ao = some ⟨b, o, none⟩ ∧ b < w.heap.size ∧ cs.length = 6 ∧ (∀ j u, cs[j]? = some u → w.cell? ⟨b, o + i * 6 + j, none⟩ = some u) ∧ ptR w cs x := fun i x hx => by
    rw [List.getElem?_map, Option.map_eq_some_iff] at hx
    obtain ⟨r, hr, rfl⟩ := hx
    have hrm := List.mem_of_getElem? hr
    have hc : ∀ j u, (cells6 r)[j]? = some u → (ps.flatMap cells6)[i * 6 + j]? = some u := fun j u hu => by
      rw [flat_get cells6_len ps i j r hr (by have := (List.getElem?_eq_some_iff.1 hu).1; rwa [cells6_len] at this)]; exact hu
    obtain ⟨g, hao, hbg, hgl, hcell⟩ := own_cell ho (hc 0 _ rfl)
    subst hao
    refine ⟨g, 0, cells6 r, rfl, hgl, rfl, fun j u hu => ?_, r.2.1.1, r.2.1.2, r.2.2.1, r.2.2.2, rfl, (hg r hrm).1, (hg r hrm).2.1, (hg r hrm).2.2.1, (hg r hrm).2.2.2⟩
    rw [Nat.zero_add]
    exact own_cell' ho (hc j u hu)
  refine ⟨⟨ao, cap, by rw [List.length_map], by rw [List.length_map]; exact h1, by unfold maxLen; omega, fun hn => ⟨by rw [List.eq_nil_of_length_eq_zero (h3 hn).1]; rfl, (h3 hn).2⟩, hel⟩, ⟨ao, ps.length, by rw [List.length_map], by rw [List.length_map]; exact Nat.le_refl _, by unfold maxLen; omega, fun hn => ⟨by rw [List.eq_nil_of_length_eq_zero (h3 hn).1]; rfl, (h3 hn).1⟩, hel⟩⟩
def cutL (l : List RangeD) (p : SpanD) : List PartD := (l.filter fun x => meetB (x.2.1, x.2.2.1) p).map fun x => (x, shareD (x.2.1, x.2.2.1) p)
theorem cutL_snoc (l : List RangeD) (x : RangeD) (p : SpanD) : cutL (l ++ [x]) p = cutL l p ++ (if meetB (x.2.1, x.2.2.1) p = true then [(x, shareD (x.2.1, x.2.2.1) p)] else []) := by
  unfold cutL
  rw [List.filter_append, List.map_append]
  congr 1
  cases hm : meetB (x.2.1, x.2.2.1) p <;> simp [hm]
theorem infoPt : (Try.prog.info? 52).map (fun i => (i.zero, i.size, i.bytes)) = some (some (.agg #[.int .i64 0, .slice none 0 0, .slice none 0 0, .int .i64 0, .slice none 0 0, .slice none 0 0]), 6, 112) := by kernel_rfl
def PtsP (l : List PartD) (w : World) (e : Ending) (w' : World) : Prop := ∃ v, e = .returned v ∧ IsPts w' v l ∧ Below w.heap.size w w'
theorem cutL_len (l : List RangeD) (p : SpanD) : (cutL l p).length ≤ l.length := by
  unfold cutL
  rw [List.length_map]
  exact List.length_filter_le _ _
set_option maxRecDepth 100000 in
set_option maxHeartbeats 1000000 in
theorem clipPt_any (ao : Option Addr) (n cap : Nat) (w : World) (hn : n ≤ cap) (hc : cap ≤ 9223372036854775807) (h0 : ao = none → n = 0 ∧ cap = 0) :
    Calls Try.prog 80 #[.slice ao n cap] w (fun e w' => e = .returned (.slice ao n n) ∧ w = w') := by
  cases ao with
  | none =>
    obtain ⟨rfl, rfl⟩ := h0 rfl
    go_enter Try.func80, Try.ntmps80
    go_wp2_with fail
    go_ret
    exact ⟨rfl, rfl⟩
  | some a =>
    clear h0
    go_enter Try.func80, Try.ntmps80
    go_wp2_with fail
    go_ret
    exact ⟨rfl, rfl⟩
set_option maxRecDepth 100000 in
set_option maxHeartbeats 8000000 in
theorem cut_any (v pfv ptv : Value) (l : List RangeD) (pf pt : List Int) (w : World) (h : IsRgs w v l) (hpf : IsB w pfv pf) (hpt : IsB w ptv pt) (hl : l.length ≤ 1000) (hs : ∀ x ∈ l, x.2.1.length ≤ 140737488355328 ∧ x.2.2.1.length ≤ 140737488355328)
    (l1 : pf.length ≤ 140737488355328) (l2 : pt.length ≤ 140737488355328) : Calls Try.prog 50 #[v, .agg #[pfv, ptv]] w (PtsP (cutL l (pf, pt)) w) := by
  obtain ⟨i0, hi0, hz0, hz1, hz2⟩ := info_parts infoPt
  have HI := Lib.hid hi0; have HZ0 := Lib.hid hz0; have HZ1 := Lib.hid hz1; have HZ2 := Lib.hid hz2
  clear hi0 hz0 hz1 hz2
  obtain ⟨ao, cap, rfl, -, -, -⟩ := h.form
  obtain ⟨pfo, pfc, rfl, -, -, -⟩ := hpf.form
  obtain ⟨pto, ptc, rfl, -, -, -⟩ := hpt.form
  have HB := Lib.hid h
  have HS := Lib.hid hs
  have HPF := Lib.hid hpf
  have HPT := Lib.hid hpt
  have L1 := Lib.hid l1; have L2 := Lib.hid l2
  clear h hs hpf hpt l1 l2
  go_enter Try.func50, Try.ntmps50
  go_wp2_with fail
  have P0 : Hid ((w.alloc (.cells #[.slice pfo pf.length pfc, .slice pto pt.length ptc] 25)).cell? ⟨w.heap.size, 0, none⟩ = some (.slice pfo pf.length pfc)) := Lib.hid (by go_simp)
  have P1 : Hid ((w.alloc (.cells #[.slice pfo pf.length pfc, .slice pto pt.length ptc] 25)).cell? ⟨w.heap.size, 1, none⟩ = some (.slice pto pt.length ptc)) := Lib.hid (by go_simp)
  have hsz : (w.alloc (.cells #[.slice pfo pf.length pfc, .slice pto pt.length ptc] 25)).heap.size = w.heap.size + 1 := by simp
  have hbw : Below w.heap.size w (w.alloc (.cells #[.slice pfo pf.length pfc, .slice pto pt.length ptc] 25)) := (Below.refl _ w).alloc (Nat.le_refl _) _
  generalize w.alloc (.cells #[.slice pfo pf.length pfc, .slice pto pt.length ptc] 25) = W at *
  have HSZ := Lib.hid hsz
  have HBW := Lib.hid hbw
  clear hsz hbw
  go_loopw [5, 10] (fun v i wr => ∃ (k : Nat) (ps : List PV), k ≤ l.length ∧ i = .int .i64 k ∧ Hid (ps.map (·.1) = cutL (l.take k) (pf, pt)) ∧ Hid (wr.ownsRow W.heap.size 52 6 v ps.length (ps.flatMap cells6)) ∧ Hid (∀ p ∈ ps, PtS wr W.heap.size p) ∧ Hid (Below W.heap.size W wr)) (fun _ i _ => l.length - (intOf i).toNat)
  case atStart => exact ⟨0, [], Nat.zero_le _, rfl, rfl, ⟨rfl, .inl ⟨rfl, rfl⟩⟩, (fun _ h => by cases h), Below.refl _ _⟩
  case round =>
    obtain ⟨k, ps, hk, rfl, hps, hown, hgood, hbelW⟩ := hrel
    have hbel : Hid (Below w.heap.size w wr) := Lib.hid (bel_call HBW.out hbelW.out)
    have zW : W.heap.size ≤ wr.heap.size := hbelW.out.size
    have zw : w.heap.size < wr.heap.size := by have := HSZ.out; omega
    have hpl : ps.length ≤ k := by
      have h1 := congrArg List.length hps.out
      rw [List.length_map] at h1
      have h2 := cutL_len (l.take k) (pf, pt)
      rw [List.length_take] at h2
      omega
    by_cases hlt : k < l.length
    · obtain ⟨b, o, x, fv, tv, hao, hbb, hx, c0', c1', c2', c3', hfv, htv, hI⟩ := IsRgs.at4 HB.out hlt
      subst hao
      have c0 := (hbel.out.cell (p := ⟨b, o + k * 4, none⟩) hbb).trans c0'
      have c1 := (hbel.out.cell (p := ⟨b, o + k * 4 + 1, none⟩) hbb).trans c1'
      have c2 := (hbel.out.cell (p := ⟨b, o + k * 4 + 2, none⟩) hbb).trans c2'
      have c3 := (hbel.out.cell (p := ⟨b, o + k * 4 + 3, none⟩) hbb).trans c3'
      have p0 := (hbelW.out.cell (p := ⟨w.heap.size, 0, none⟩) (by have := HSZ.out; show w.heap.size < W.heap.size; omega)).trans P0.out
      have p1 := (hbelW.out.cell (p := ⟨w.heap.size, 1, none⟩) (by have := HSZ.out; show w.heap.size < W.heap.size; omega)).trans P1.out
      obtain ⟨s1, s2⟩ := HS.out x (List.mem_of_getElem? hx.out)
      have S1 := Lib.hid s1; have S2 := Lib.hid s2
      obtain ⟨fo, fc, rfl, -, -, -⟩ := hfv.out.form
      obtain ⟨to, tc, rfl, -, -, -⟩ := htv.out.form
      have hl0 : (k : Int) < l.length := by omega
      have hl1 : 0 ≤ (k : Int) := by omega
      have hw1 := IntWalk.i64_in ((k : Int) + 1) (by omega)
      have ba : Below wr.heap.size wr (wr.alloc (.cells #[.int .i64 x.1, .slice fo x.2.1.length fc, .slice to x.2.2.1.length tc, .int .i64 x.2.2.2] 39)) := (Below.refl _ wr).alloc (Nat.le_refl _) _
      have BA := Lib.hid ba
      have B0 := Lib.hid (bel_call hbel.out ba)
      have HMT := Lib.hid (meet_any _ _ _ _ x.2.1 x.2.2.1 pf pt (wr.alloc (.cells #[.int .i64 x.1, .slice fo x.2.1.length fc, .slice to x.2.2.1.length tc, .int .i64 x.2.2.2] 39)) (hfv.out.below B0.out) (htv.out.below B0.out) (HPF.out.below B0.out) (HPT.out.below B0.out) s1 s2 L1.out L2.out)
      have HSN : Hid (cutL (l.take (k + 1)) (pf, pt) = cutL (l.take k) (pf, pt) ++ (if meetB (x.2.1, x.2.2.1) (pf, pt) = true then [(x, shareD (x.2.1, x.2.2.1) (pf, pt))] else [])) := Lib.hid (by rw [take_snoc hx.out]; exact cutL_snoc (l.take k) x (pf, pt))
      clear c0' c1' c2' c3' s1 s2 ba
      go_wp2_with fail
      refine HMT.out.mono ?_
      rintro e w2 ⟨rfl, hb⟩
      replace k0 : w2.cell? ⟨wr.heap.size, 0, none⟩ = some (.int .i64 x.1) := (hb.cell (p := ⟨wr.heap.size, 0, none⟩) (by simp <;> omega)).trans (by go_simp); replace k1 : w2.cell? ⟨wr.heap.size, 1, none⟩ = some (.slice fo x.2.1.length fc) := (hb.cell (p := ⟨wr.heap.size, 1, none⟩) (by simp <;> omega)).trans (by go_simp); replace k2 : w2.cell? ⟨wr.heap.size, 2, none⟩ = some (.slice to x.2.2.1.length tc) := (hb.cell (p := ⟨wr.heap.size, 2, none⟩) (by simp <;> omega)).trans (by go_simp); replace k3 : w2.cell? ⟨wr.heap.size, 3, none⟩ = some (.int .i64 x.2.2.2) := (hb.cell (p := ⟨wr.heap.size, 3, none⟩) (by simp <;> omega)).trans (by go_simp); replace k4 : w2.cell? ⟨w.heap.size, 0, none⟩ = some (.slice pfo pf.length pfc) := (hb.cell (p := ⟨w.heap.size, 0, none⟩) (by simp <;> omega)).trans (by go_simp); replace k5 : w2.cell? ⟨w.heap.size, 1, none⟩ = some (.slice pto pt.length ptc) := (hb.cell (p := ⟨w.heap.size, 1, none⟩) (by simp <;> omega)).trans (by go_simp)
      have z2 : wr.heap.size < w2.heap.size := by have := hb.size; simp at this; omega
      have z3 : w.heap.size < w2.heap.size := by omega
      have G2 : Hid (Below wr.heap.size wr w2) := Lib.hid (bel_call BA.out hb)
      have GW2 := Lib.hid (bel_call hbel.out G2.out)
      have GV2 : Hid (Below W.heap.size W w2) := Lib.hid (bel_call hbelW.out G2.out)
      have O2 := own_below hown.out G2.out
      clear hb c0 c1 c2 c3 p0 p1
      cases hm : meetB (x.2.1, x.2.2.1) (pf, pt)
      · have HN : Hid (ps.map (·.1) = cutL (l.take (k + 1)) (pf, pt)) := Lib.hid (by rw [HSN.out, hm, hps.out]; simp)
        have OW := Lib.hid O2
        clear hm O2
        go_wp2_with fail
        go_roundw
        case rel => exact ⟨k + 1, ps, by omega, by go_num, HN.out, OW.out, fun p hp => (hgood.out p hp).below G2.out, GV2.out⟩
        case measure => simp [intOf]; omega
      · have HN : Hid (cutL (l.take (k + 1)) (pf, pt) = ps.map (·.1) ++ [(x, shareD (x.2.1, x.2.2.1) (pf, pt))]) := Lib.hid (by rw [HSN.out, hm, hps.out]; simp)
        obtain ⟨vo, vc, rfl, -, -, -, -⟩ := own_form O2
        have OW := Lib.hid O2
        have HOWN := Lib.hid (own_any _ _ x.1 x.2.2.2 x.2.1 x.2.2.1 w2.drew (hfv.out.below GW2.out.drew) (htv.out.below GW2.out.drew) S1.out S2.out)
        have HSHA := Lib.hid (fun w5 (h5 : Below w2.drew.heap.size w2.drew w5) => share_any _ _ _ _ x.2.1 x.2.2.1 pf pt w5 ((hfv.out.below GW2.out.drew).below h5) ((htv.out.below GW2.out.drew).below h5) ((HPF.out.below GW2.out.drew).below h5) ((HPT.out.below GW2.out.drew).below h5) S1.out S2.out L1.out L2.out)
        unfold OwnP at HOWN
        unfold CopiedP at HSHA
        clear hm O2
        generalize hSH : shareD (x.2.1, x.2.2.1) (pf, pt) = sh at *
        clear hSH
        go_wp2_with fail
        refine wp_region_T (fun w' => Below w2.heap.size w2 w') [9, 10] (by kernel_rfl) ?_ (fun hS9 => ?_)
        · exact (Below.refl _ _).drew
        refine wpAnyT_take (i := 0) rfl (by kernel_rfl) (by kernel_rfl) (by kernel_rfl) (by kernel_rfl) (by kernel_rfl) (by rfl) hS9 ?_; apply Exists.intro; refine ⟨fun _ _ _ h => h, fun w9 hT9 => ?_, ?_⟩
        · (try dsimp only at hT9); go_simp; first | done | with_reducible rfl | rfl
        simp only [Act.put, List.setIfInBounds_toArray, List.set_cons_succ, List.set_cons_zero]
        refine wpAnyT_take (i := 1) rfl (by kernel_rfl) (by kernel_rfl) (by kernel_rfl) (by kernel_rfl) (by kernel_rfl) (by rfl) hS9 ?_; apply Exists.intro; refine ⟨fun _ _ _ h => h, fun w9 hT9 => ?_, ?_⟩
        · (try dsimp only at hT9); obtain ⟨hcc9, hff9⟩ := bcell hT9; go_simp; first | done | with_reducible rfl | rfl
        simp only [Act.put, List.setIfInBounds_toArray, List.set_cons_succ, List.set_cons_zero]
        refine wpAnyT_take (i := 3) rfl (by kernel_rfl) (by kernel_rfl) (by kernel_rfl) (by kernel_rfl) (by kernel_rfl) (by rfl) hS9 ?_; apply Exists.intro; refine ⟨fun _ _ _ h => h, fun w9 hT9 => ?_, ?_⟩
        · (try dsimp only at hT9); go_simp; first | done | with_reducible rfl | rfl
        simp only [Act.put, List.setIfInBounds_toArray, List.set_cons_succ, List.set_cons_zero]
        refine wpAnyT_take (i := 4) rfl (by kernel_rfl) (by kernel_rfl) (by kernel_rfl) (by kernel_rfl) (by kernel_rfl) (by rfl) hS9 ?_; apply Exists.intro; refine ⟨fun _ _ _ h => h, fun w9 hT9 => ?_, ?_⟩
        · (try dsimp only at hT9); obtain ⟨hcc9, hff9⟩ := bcell hT9; go_simp; first | done | with_reducible rfl | rfl
        simp only [Act.put, List.setIfInBounds_toArray, List.set_cons_succ, List.set_cons_zero]
        refine wpAnyT_take (i := 5) rfl (by kernel_rfl) (by kernel_rfl) (by kernel_rfl) (by kernel_rfl) (by kernel_rfl) (by rfl) hS9 ?_; apply Exists.intro; refine ⟨fun _ _ _ h => h, fun w9 hT9 => ?_, ?_⟩
        · (try dsimp only at hT9); obtain ⟨hcc9, hff9⟩ := bcell hT9; go_simp; first | done | with_reducible rfl | rfl
        simp only [Act.put, List.setIfInBounds_toArray, List.set_cons_succ, List.set_cons_zero]
        refine wpAnyT_one (i := 2) rfl (by kernel_rfl) (fun K9 hK9 => ?_)
        go_simp; (with_reducible refine Calls.mono HOWN.out ?_); rintro e w5 ⟨v1, v2, rfl, h1, h2, hb⟩; have HB5 := Lib.hid hb; have H1 := Lib.hid h1; have H2 := Lib.hid h2; obtain ⟨fo1, fc1, rfl, -, -, -, -⟩ := h1.form; obtain ⟨to1, tc1, rfl, -, -, -, -⟩ := h2.form; clear h1 h2
        refine hK9.out _ _ ?_ (fun hT9 => ?_)
        · (try dsimp only); (first | exact hS9 | exact bel_call hS9 hb | exact bel_alloc hS9 _ | exact hS9.setCell (by simp <;> omega) _)
        clear hK9 K9 hS9; have hS9 := hT9; clear hT9
        (try simp only [Act.put, List.setIfInBounds_toArray, List.set_cons_succ, List.set_cons_zero])
        refine wpAnyT_one (i := 6) rfl (by kernel_rfl) (fun K9 hK9 => ?_)
        go_simp; (with_reducible refine Calls.mono (HSHA.out w5 HB5.out) ?_); rintro e w6 ⟨v3, v4, rfl, h3, h4, hb⟩; have HB6 := Lib.hid hb; have H3 := Lib.hid h3; have H4 := Lib.hid h4; obtain ⟨fo3, fc3, rfl, -, -, -, -⟩ := h3.form; obtain ⟨to3, tc3, rfl, -, -, -, -⟩ := h4.form; clear h3 h4
        refine hK9.out _ _ ?_ (fun hT9 => ?_)
        · (try dsimp only); (first | exact hS9 | exact bel_call hS9 hb | exact bel_alloc hS9 _ | exact hS9.setCell (by simp <;> omega) _)
        clear hK9 K9 hS9; have hS9 := hT9; clear hT9
        (try simp only [Act.put, List.setIfInBounds_toArray, List.set_cons_succ, List.set_cons_zero])
        refine wpAnyT_one (i := 7) rfl (by kernel_rfl) (fun K9 hK9 => ?_)
        go_simp
        refine hK9.out _ _ ?_ (fun hT9 => ?_)
        · (try dsimp only); (first | exact hS9 | exact bel_call hS9 hb | exact bel_alloc hS9 _ | exact hS9.setCell (by simp <;> omega) _)
        clear hK9 K9 hS9; have hS9 := hT9; clear hT9
        (try simp only [Act.put, List.setIfInBounds_toArray, List.set_cons_succ, List.set_cons_zero])
        refine wpAnyT_one (i := 8) rfl (by kernel_rfl) (fun K9 hK9 => ?_)
        go_simp
        refine hK9.out _ _ ?_ (fun hT9 => ?_)
        · (try dsimp only); (first | exact hS9 | exact bel_call hS9 hb | exact bel_alloc hS9 _ | exact hS9.setCell (by simp <;> omega) _)
        clear hK9 K9 hS9; have hS9 := hT9; clear hT9
        (try simp only [Act.put, List.setIfInBounds_toArray, List.set_cons_succ, List.set_cons_zero])
        refine wpAnyT_free (i := 9) rfl (by kernel_rfl) (by kernel_rfl) (fun K9 hK9 => ?_)
        have O6 := Lib.hid (own_below OW.out (bel_call (bel_of_drew HB5.out) HB6.out)); refine step_of_list rfl ?_; refine wpList_append_cells (w := w6) (base := W.heap.size) (size := 6) (n := ps.length) (xs := ps.flatMap cells6) (.tmp 18) (.tmp 26) _ rfl rfl i0 _ 112 Try.underlying43 HI.out HZ0.out HZ1.out HZ2.out rfl (by decide) [.int .i64 x.1, .slice fo1 x.2.1.length fc1, .slice to1 x.2.2.1.length tc1, .int .i64 x.2.2.2, .slice fo3 sh.1.length fc3, .slice to3 sh.2.length tc3] rfl (by intro u hu; simp only [List.mem_cons, List.not_mem_nil, or_false] at hu; rcases hu with rfl | rfl | rfl | rfl | rfl | rfl <;> rfl) rfl rfl O6.out (by omega) (by omega) (by have q5 := HB5.out.size; have q6 := HB6.out.size; simp at q5; omega) ?_; intro v7 w7 ho7 hg7 hk7; obtain ⟨vo7, vc7, rfl, -, -, -, -⟩ := own_form ho7; have HO7 := Lib.hid ho7; have HG7 := Lib.hid hg7; clear ho7 hg7 hk7; refine list_done ?_
        refine hK9.out _ _ ?_; clear hK9 K9
        (try simp only [Act.put, List.setIfInBounds_toArray, List.set_cons_succ, List.set_cons_zero])
        refine wpAnyT_free (i := 10) rfl (by kernel_rfl) (by kernel_rfl) (fun K9 hK9 => ?_)
        go_simp
        refine hK9.out _ _ ?_; clear hK9 K9
        (try simp only [Act.put, List.setIfInBounds_toArray, List.set_cons_succ, List.set_cons_zero])
        refine wpAnyT_done (by kernel_rfl) ?_ _; have HS9 := Lib.hid hS9; clear hS9
        have G6 : Hid (Below wr.heap.size wr w6) := Lib.hid (bel_call (bel_call G2.out (bel_of_drew HB5.out)) HB6.out)
        have GW6 : Hid (Below W.heap.size W w6) := Lib.hid (bel_call hbelW.out G6.out)
        have GW7 : Hid (Below W.heap.size W w7) := Lib.hid (bel_own GW6.out HG7.out O6.out)
        have z5 : w2.heap.size ≤ w5.heap.size := HB5.out.size
        have z6 := HB6.out.size
        have z7 := GV2.out.size
        have HP : Hid (∀ p ∈ ps ++ [((x, sh), (.slice fo1 x.2.1.length fc1, .slice to1 x.2.2.1.length tc1), (.slice fo3 sh.1.length fc3, .slice to3 sh.2.length tc3))], PtS w7 W.heap.size p) := Lib.hid (fun p hp => by
          rcases List.mem_append.1 hp with hp | hp
          · exact ((hgood.out p hp).below G6.out).grown O6.out HG7.out
          · rw [List.mem_singleton] at hp
            subst hp
            refine PtS.grown (w := w6) ⟨(H1.out.below HB6.out).mono ?_, (H2.out.below HB6.out).mono ?_, H3.out.mono ?_, H4.out.mono ?_⟩ O6.out HG7.out
            · show W.heap.size ≤ w2.heap.size; omega
            · show W.heap.size ≤ w2.heap.size; omega
            · omega
            · omega)
        go_wp2_with fail
        go_roundw
        case rel =>
          refine ⟨k + 1, ps ++ [((x, sh), (.slice fo1 x.2.1.length fc1, .slice to1 x.2.2.1.length tc1), (.slice fo3 sh.1.length fc3, .slice to3 sh.2.length tc3))], by omega, by go_num, ?_, ?_, HP, GW7.out⟩
          · show List.map _ _ = _
            rw [HN.out, List.map_append]; rfl
          · have h := HO7.out
            show World.ownsRow _ _ _ _ _ _ _
            rw [List.length_append, List.flatMap_append]
            exact h
        case measure => simp [intOf]; omega
    · have hkl : k = l.length := by omega
      subst hkl
      obtain ⟨vo, vc, rfl, hvc, hvc2, hvn, -⟩ := own_form hown.out
      have HP := Lib.hid (isPts_of_row hown.out (fun p hp => (hgood.out p hp).b)).2
      have HE : Hid (ps.map (·.1) = cutL l (pf, pt)) := Lib.hid (by have := hps.out; rwa [List.take_length] at this)
      have HCL := Lib.hid (clipPt_any vo ps.length vc wr hvc (by omega) hvn)
      clear hvc hvc2 hvn
      go_wp2_with fail
      refine HCL.out.mono ?_
      rintro e w3 ⟨rfl, rfl⟩
      go_wp2_with fail
      go_ret
      exact ⟨_, rfl, HE.out ▸ HP.out, hbel.out⟩
end Rm
end Go.Proofs.Ytbeniogffhihlaa
