/- rangemeta: the walk of RangemetaSplits. -/
import Derived.Test.YtbeniogffhihlaaRmGood
set_option linter.unusedVariables false
set_option linter.unusedSimpArgs false
namespace Go.Proofs.Ytbeniogffhihlaa
open Go.RowKit
namespace Rm
/-- a table and the document's ranges, side by side -/
structure SpI (w : World) (B tb : Nat) (wr : World) (lv : Value) (L : List RangeD) : Prop where
  good : Good L
  tab : ∃ v, wr.heap[tb]? = some (.cells #[v] 80 (0, 0)) ∧ OwnRgs wr B v L ∧ ∀ b, v.ownBlock = some b → lv.ownBlock ≠ some b
  row : RowB w B wr lv L
  bel : Below w.heap.size w wr
  hB : w.heap.size ≤ B
  htb : B ≤ tb
  hbs : B ≤ wr.heap.size
theorem SpI.below {w : World} {B tb : Nat} {wr w1 : World} {lv : Value} {L : List RangeD} (h : SpI w B tb wr lv L) (hb : Below wr.heap.size wr w1) : SpI w B tb w1 lv L := by
  obtain ⟨v, h1, h2, h3⟩ := h.tab
  exact ⟨h.good, ⟨v, (hb.block tb (Array.getElem?_eq_some_iff.1 h1).1).trans h1, h2.below hb, h3⟩, h.row.below hb, bel_call h.bel hb, h.hB, h.htb, Nat.le_trans h.hbs hb.size⟩
theorem SpI.lt {w : World} {B tb : Nat} {wr : World} {lv : Value} {L : List RangeD} (h : SpI w B tb wr lv L) : tb < wr.heap.size := by
  obtain ⟨v, h1, -⟩ := h.tab
  exact (Array.getElem?_eq_some_iff.1 h1).1
theorem RowB.chg {S : Nat → Prop} {w0 w w1 : World} {base : Nat} {v : Value} {l : List RangeD} (h : RowB w0 base w v l) (k : Chg S w w1) (hv : ∀ b, v.ownBlock = some b → ¬ S b) : RowB w0 base w1 v l := by
  obtain ⟨rs, h1, h2, h3⟩ := h
  exact ⟨rs, h1, k.own h2 hv, h3⟩
theorem RowB.typed {w0 w : World} {base : Nat} {v : Value} {l : List RangeD} (h : RowB w0 base w v l) : ∀ b, v.ownBlock = some b → base ≤ b ∧ b < w.heap.size ∧ ∃ cur, w.heap[b]? = some (.cells cur 39 (0, 0)) := by
  obtain ⟨rs, h1, h2, h3⟩ := h
  exact own_typed h2
theorem OwnRgs.typed {w : World} {base : Nat} {v : Value} {l : List RangeD} (h : OwnRgs w base v l) : ∀ b, v.ownBlock = some b → base ≤ b ∧ b < w.heap.size ∧ ∃ cur, w.heap[b]? = some (.cells cur 39 (0, 0)) := by
  obtain ⟨rs, h1, h2, h3⟩ := h
  exact own_typed h2
/-- behind a split of the table, ahead of the document's -/
structure SpJ (w : World) (B tb : Nat) (wr : World) (lv : Value) (L L2 : List RangeD) : Prop where
  good : Good L
  good2 : Good L2
  tab : ∃ v, wr.heap[tb]? = some (.cells #[v] 80 (0, 0)) ∧ OwnRgs wr B v L2 ∧ ∀ b, v.ownBlock = some b → lv.ownBlock ≠ some b
  row : RowB w B wr lv L
  bel : Below w.heap.size w wr
  hB : w.heap.size ≤ B
  htb : B ≤ tb
  hbs : B ≤ wr.heap.size
theorem SpI.split {w : World} {B tb : Nat} {wr w1 : World} {lv v : Value} {L L2 : List RangeD} {c : Int} {e : Ending} (h : SpI w B tb wr lv L) (ht : wr.heap[tb]? = some (.cells #[v] 80 (0, 0))) (hap : ∀ b, v.ownBlock = some b → lv.ownBlock ≠ some b) (ho : OwnRgs wr B v L) (hs : SplitP B tb v c L2 wr e w1) (hg : Good L2) : SpJ w B tb w1 lv L L2 := by
  obtain ⟨-, v2, h1, h2, h3, h4⟩ := hs
  have hlv := h.row.typed
  have hS : ∀ b, lv.ownBlock = some b → ¬ (b = tb ∨ v.ownBlock = some b) := fun b hb hs => by
    rcases hs with rfl | hs
    · obtain ⟨-, -, cur, hc⟩ := hlv b hb
      exact absurd (types_apart hc ht) (by decide)
    · exact hap b hs hb
  refine ⟨h.good, hg, ⟨v2, h1, h2, fun b hb hl => ?_⟩, h.row.chg h3 hS, h.bel.trans (h3.below (Nat.le_trans h.hB h.hbs) fun b hb hs => ?_), h.hB, h.htb, Nat.le_trans h.hbs h3.size⟩
  · obtain ⟨-, hlt, -⟩ := hlv b hl
    rcases h4 with h4 | ⟨b', h5, h6⟩
    · exact hap b (h4 ▸ hb) hl
    · rw [h5] at hb
      cases hb
      omega
  · rcases hs with rfl | hs
    · have := h.htb; have := h.hB; omega
    · have := (ho.typed b hs).1; have := h.hB; omega
theorem SpJ.below {w : World} {B tb : Nat} {wr w1 : World} {lv : Value} {L L2 : List RangeD} (h : SpJ w B tb wr lv L L2) (hb : Below wr.heap.size wr w1) : SpJ w B tb w1 lv L L2 := by
  obtain ⟨v, h1, h2, h3⟩ := h.tab
  exact ⟨h.good, h.good2, ⟨v, (hb.block tb (Array.getElem?_eq_some_iff.1 h1).1).trans h1, h2.below hb, h3⟩, h.row.below hb, bel_call h.bel hb, h.hB, h.htb, Nat.le_trans h.hbs hb.size⟩
theorem SpJ.rsplit {w : World} {B tb : Nat} {wr w1 : World} {lv lv2 : Value} {L L2 : List RangeD} (h : SpJ w B tb wr lv L L2) (h1 : RowB w B w1 lv2 L2) (h2 : lv2 = lv ∨ ∃ b, lv2.ownBlock = some b ∧ wr.heap.size ≤ b) (hb : Below wr.heap.size wr w1) : SpI w B tb w1 lv2 L2 := by
  obtain ⟨v, k1, k2, k3⟩ := h.tab
  refine ⟨h.good2, ⟨v, (hb.block tb (Array.getElem?_eq_some_iff.1 k1).1).trans k1, k2.below hb, fun b hv hl => ?_⟩, h1, bel_call h.bel hb, h.hB, h.htb, Nat.le_trans h.hbs hb.size⟩
  rcases h2 with rfl | ⟨b', h5, h6⟩
  · exact k3 b hv hl
  · rw [h5] at hl
    cases hl
    have := (k2.typed b hv).2.1
    omega
theorem isB_nil {w w' : World} {v : Value} (h : IsB w v []) : IsB w' v [] := by
  obtain ⟨h0, ao, cap, h1, h2, h3, h4, -⟩ := h
  exact ⟨h0, ao, cap, h1, h2, h3, h4, fun a _ hl => by simp at hl⟩
theorem SpI.start {w w1 w2 : World} (hb1 : Below w.heap.size w w1) {r : Value} (hr : RowB (newW w1) (newW w1).heap.size w2 r [(1, [], [], 1)]) (hb2 : Below (newW w1).heap.size (newW w1) w2) : SpI w w1.heap.size (w1.heap.size + 1) w2 r [(1, [], [], 1)] := by
  have hn := newW_size w1
  have hnb := newW_below w1
  have hx : RowB w w1.heap.size w2 r [(1, [], [], 1)] := by
    obtain ⟨rs, q1, q2, q3⟩ := hr
    refine ⟨rs, q1, own_mono q2 (by omega), fun s hs => ?_⟩
    have hm : s.1 = (1, [], [], 1) := by
      have : s.1 ∈ rs.map (·.1) := List.mem_map.2 ⟨s, hs, rfl⟩
      rw [q1] at this
      simpa using this
    obtain ⟨a, b, c, d⟩ := q3 s hs
    rw [hm] at a b ⊢
    exact ⟨isB_nil a, isB_nil b, by unfold I64; simp, by unfold I64; simp⟩
  refine ⟨good_new, ⟨_, (hb2.block _ (by omega)).trans (new_tab w1), (new_own w1).below hb2, fun b hb hl => ?_⟩, hx, (bel_call hb1 hnb).trans (hb2.mono (by have := hb1.size; omega)), hb1.size, by omega, by have := hb2.size; omega⟩
  have h1 := (hr.typed b hl).1
  have hbe : w1.heap.size = b := by simpa [Value.ownBlock] using hb
  rw [hn] at h1
  omega
set_option maxRecDepth 100000 in
set_option maxHeartbeats 8000000 in
theorem splits_walk (sv kv pfv ptv : Value) (sc : List ScD) (key pf pt : List Int) (w : World) (hs : IsSc w sv sc) (hk : IsB w kv key) (hpf : IsB w pfv pf) (hpt : IsB w ptv pt) (l1 : pf.length ≤ 140737488355328) (l2 : pt.length ≤ 140737488355328) :
    Calls Try.prog 3 #[sv, kv, .agg #[pfv, ptv]] w (Ret (.bool true) w) := by
  obtain ⟨so, scap, rfl, -, -, -⟩ := hs.form
  obtain ⟨ko, kc, rfl, -, -, -⟩ := hk.form
  obtain ⟨fo, fc, rfl, -, -, -⟩ := hpf.form
  obtain ⟨to, tc, rfl, -, -, -⟩ := hpt.form
  have hscm := hs.max
  obtain ⟨W0, hW0⟩ : ∃ W0, w.alloc (.cells #[.slice fo pf.length fc, .slice to pt.length tc] 25) = W0 := ⟨_, rfl⟩
  have hb0 : Below w.heap.size w W0 := hW0 ▸ bel_alloc (.refl _ w) _
  have hbx : W0.heap[w.heap.size]? = some (.cells #[.slice fo pf.length fc, .slice to pt.length tc] 25 (0, 0)) := by rw [← hW0]; exact heap_alloc_new w _
  have hlt0 : w.heap.size < W0.heap.size := (Array.getElem?_eq_some_iff.1 hbx).1
  have HB0 := Lib.hid hb0
  have HBX := Lib.hid hbx
  have HLT0 := Lib.hid hlt0
  have HSC := Lib.hid (hs.below scR_stays hb0)
  have HK := Lib.hid (hk.below hb0)
  have HF := Lib.hid (hpf.below hb0)
  have HT := Lib.hid (hpt.below hb0)
  clear hs hk hpf hpt hb0 hbx hlt0
  go_enter Try.func3, Try.ntmps3
  go_wp2_with fail
  refine (awake_any _).mono ?_
  rintro e w1 ⟨rfl, hb⟩
  have G1 := Lib.hid hb
  clear hb
  go_wp2_with fail
  refine (new_any _).mono ?_
  rintro e w2 ⟨rfl, hw2⟩
  obtain ⟨tb, htb⟩ : ∃ tb, w1.heap.size + 1 = tb := ⟨_, rfl⟩
  rw [htb]
  have HW2 := Lib.hid hw2
  have HTB := Lib.hid htb
  clear hw2 htb
  go_wp2_with fail
  refine (rNew_any w2).mono ?_
  rintro e w3 ⟨rfl, hr, hb⟩
  obtain ⟨lv0, hlv0⟩ : ∃ lv0, Value.slice (some ⟨w2.heap.size, 0, none⟩) 1 1 = lv0 := ⟨_, rfl⟩
  rw [hlv0] at hr ⊢
  have HI : Hid (SpI W0 w1.heap.size tb w3 lv0 [(1, [], [], 1)]) := Lib.hid (by
    have h2 := HW2.out
    have ht := HTB.out
    subst h2 ht
    exact SpI.start G1.out hr hb)
  obtain ⟨B, hB⟩ : ∃ B, w1.heap.size = B := ⟨_, rfl⟩
  rw [hB] at HI
  clear hr hb hlv0 hB HW2 HTB G1
  go_wp2_with fail
  go_loopw [9, 10] (fun lv i wr => ∃ (k : Nat) (L : List RangeD), i = .int .i64 k ∧ k ≤ 200 ∧ Hid (SpI W0 B tb wr lv L)) (fun _ i _ => 200 - (intOf i).toNat)
  case atStart => exact ⟨0, _, rfl, by omega, HI⟩
  case round =>
    obtain ⟨k, L, rfl, hk2, hI⟩ := hrel
    by_cases hlt : k < sc.length ∧ k < 200
    · obtain ⟨hlt1, hlt2⟩ := hlt
      obtain ⟨b, o, x, xk, rfl, hbb, hx, c0', c1', c2', hkx, hi64⟩ := IsSc.at3 HSC.out hlt1
      have c0 := (hI.out.bel.cell (p := ⟨b, o + k * 3, none⟩) hbb).trans c0'
      have c1 := (hI.out.bel.cell (p := ⟨b, o + k * 3 + 1, none⟩) hbb).trans c1'
      have c2 := (hI.out.bel.cell (p := ⟨b, o + k * 3 + 2, none⟩) hbb).trans c2'
      obtain ⟨xo, xc, rfl, -, -, -⟩ := hkx.out.form
      obtain ⟨W1, hW1⟩ : ∃ W1, wr.alloc (.cells #[.int .i64 x.1, .int .i64 x.2.1, .slice xo x.2.2.length xc] 32) = W1 := ⟨_, rfl⟩
      have hb1 : Below wr.heap.size wr W1 := hW1 ▸ bel_alloc (.refl _ wr) _
      have hx1 : W1.heap[wr.heap.size]? = some (.cells #[.int .i64 x.1, .int .i64 x.2.1, .slice xo x.2.2.length xc] 32 (0, 0)) := by rw [← hW1]; exact heap_alloc_new wr _
      have d0 : W1.cell? ⟨wr.heap.size, 0, none⟩ = some (.int .i64 x.1) := by rw [cell_of_row W1 _ 0 _ _ _ hx1]; rfl
      have d1 : W1.cell? ⟨wr.heap.size, 1, none⟩ = some (.int .i64 x.2.1) := by rw [cell_of_row W1 _ 1 _ _ _ hx1]; rfl
      have d2 : W1.cell? ⟨wr.heap.size, 2, none⟩ = some (.slice xo x.2.2.length xc) := by rw [cell_of_row W1 _ 2 _ _ _ hx1]; rfl
      have hJ := hI.out.below hb1
      obtain ⟨v, t1, t2, t3⟩ := hJ.tab
      obtain ⟨E, hE⟩ : ∃ E, splitE L x.1 x.2.1 x.2.2 = E := ⟨_, rfl⟩
      obtain ⟨L2, hL2⟩ : ∃ L2, splitR L x.1 x.2.1 x.2.2 = L2 := ⟨_, rfl⟩
      have hg2 : Good L2 := hL2 ▸ good_split hJ.good _ _ _
      have hC := split_any B tb v (.slice xo x.2.2.length xc) L x.1 x.2.1 x.2.2 W1 hJ.htb t1 t2 hJ.good.1 hJ.good.2.1 hJ.good.2.2.2 (hkx.out.below hJ.bel) hi64.out.1 hi64.out.2 hJ.hbs
      rw [hE, hL2] at hC
      have HC := Lib.hid hC
      have HJ := Lib.hid hJ; have T1 := Lib.hid t1; have T2 := Lib.hid t2; have T3 := Lib.hid t3; have HX1 := Lib.hid hx1; have HG2 := Lib.hid hg2
      have HE := Lib.hid hE; have HL2 := Lib.hid hL2
      have HLT := Lib.hid hI.out.lt
      clear c0' c1' c2' hb1 hx1 hJ t1 t2 t3 hg2 hC hE hL2
      go_wp2_with fail
      refine HC.out.mono ?_
      intro e w2 hsp
      have hj := HJ.out.split T1.out T3.out T2.out hsp HG2.out
      have hx2 : w2.heap[wr.heap.size]? = some (.cells #[.int .i64 x.1, .int .i64 x.2.1, .slice xo x.2.2.length xc] 32 (0, 0)) := by
        obtain ⟨-, v2, -, -, h3, -⟩ := hsp
        refine (h3.block _ (Array.getElem?_eq_some_iff.1 HX1.out).1 ?_).trans HX1.out
        rintro (h4 | h4)
        · have := HLT.out; omega
        · obtain ⟨-, -, cur, hc⟩ := T2.out.typed _ h4
          exact absurd (types_apart hc HX1.out) (by decide)
      obtain ⟨rfl, -⟩ := hsp
      have d0 : w2.cell? ⟨wr.heap.size, 0, none⟩ = some (.int .i64 x.1) := by rw [cell_of_row w2 _ 0 _ _ _ hx2]; rfl
      have d1 : w2.cell? ⟨wr.heap.size, 1, none⟩ = some (.int .i64 x.2.1) := by rw [cell_of_row w2 _ 1 _ _ _ hx2]; rfl
      have d2 : w2.cell? ⟨wr.heap.size, 2, none⟩ = some (.slice xo x.2.2.length xc) := by rw [cell_of_row w2 _ 2 _ _ _ hx2]; rfl
      have hC2 := rSplit_any W0 B u9 (.slice xo x.2.2.length xc) L x.1 x.2.1 x.2.2 w2 hj.bel hj.hbs hj.row hj.good.1 hj.good.2.1 hj.good.2.2.1 hj.good.2.2.2 hkx.out hi64.out.1 hi64.out.2
      rw [HE.out, HL2.out] at hC2
      have HC2 := Lib.hid hC2
      have HJ2 := Lib.hid hj
      clear hC2 hj hx2 HC HJ T1 T2 T3 HX1
      go_wp2_with fail
      refine HC2.out.mono ?_
      rintro e w3 ⟨lv2, rfl, hr2, hor, hb3⟩
      have hi2 := HJ2.out.rsplit hr2 hor hb3
      obtain ⟨v3, t1, t2, t3⟩ := hi2.tab
      have HLI := Lib.hid (tList_any tb v3 L2 w3 (by rw [cell_of_row w3 tb 0 _ _ _ t1]; rfl) t2.isRgs (by have := HG2.out.2.1; omega) (good_big HG2.out))
      have HI2 := Lib.hid hi2
      clear hr2 hor hb3 hi2 t1 t2 t3 HC2 HJ2 d0 d1 d2
      go_wp2_with fail
      refine HLI.out.mono ?_
      rintro e w4 ⟨u, rfl, ho4, hb4⟩
      have hi4 := HI2.out.below hb4
      have hSR := rSameRanges_any lv2 u L2 L2 w4 (hi4.row.isRgs hi4.bel) ho4.isRgs
      rw [decide_eq_true rfl] at hSR
      have HSR := Lib.hid hSR
      have HI4 := Lib.hid hi4
      clear ho4 hb4 hi4 hSR HLI HI2
      go_wp2_with fail
      refine HSR.out.mono ?_
      rintro e w5 ⟨rfl, hb5⟩
      have HI5 := Lib.hid (HI4.out.below hb5)
      clear hb5 HI4 HSR
      have hw1 := IntWalk.i64_in ((k : Int) + 1) (by omega)
      go_wp2_with fail
      go_roundw
      case rel => exact ⟨k + 1, L2, by go_num, by omega, HI5⟩
      case measure => simp [intOf]; omega
    · obtain ⟨v, t1, t2, t3⟩ := hI.out.tab
      obtain ⟨R, hR⟩ : ∃ R, (findF L key).getD zeroR = R := ⟨_, rfl⟩
      have hg := hI.out.good
      have hC := tFind_any tb v (.slice ko key.length kc) L key wr (by rw [cell_of_row wr tb 0 _ _ _ t1]; rfl) hI.out.lt t2.isRgs (HK.out.below hI.out.bel) (good_big hg)
      rw [hR] at hC
      have HC := Lib.hid hC; have HR := Lib.hid hR; have HG := Lib.hid hg
      clear hC hR hg t1 t2 t3
      have hdone : ¬ (k : Int) < sc.length ∨ ((k : Int) < sc.length ∧ ¬ (k : Int) < 200) := by omega
      clear hlt
      rcases hdone with hd | ⟨hd, hd'⟩
      all_goals go_wp2_with fail
      all_goals
        refine HC.out.mono ?_
        rintro e w2 ⟨fv, tv, rfl, h1, h2, hb⟩
        have hi2 := hI.out.below hb
        have HI2 := Lib.hid hi2
        have H1 := Lib.hid h1.isB; have H2 := Lib.hid h2.isB
        obtain ⟨fo1, fc1, rfl, -, -, -, -⟩ := h1.form
        obtain ⟨to1, tc1, rfl, -, -, -, -⟩ := h2.form
        obtain ⟨W2, hW2⟩ : ∃ W2, w2.alloc (.cells #[.int .i64 R.1, .slice fo1 R.2.1.length fc1, .slice to1 R.2.2.1.length tc1, .int .i64 R.2.2.2] 39) = W2 := ⟨_, rfl⟩
        have hbW : Below w2.heap.size w2 W2 := hW2 ▸ bel_alloc (.refl _ w2) _
        have hx2 : W2.heap[w2.heap.size]? = some (.cells #[.int .i64 R.1, .slice fo1 R.2.1.length fc1, .slice to1 R.2.2.1.length tc1, .int .i64 R.2.2.2] 39 (0, 0)) := by rw [← hW2]; exact heap_alloc_new w2 _
        have hJ := hi2.below hbW
        have hF := rFind_any u9 (.slice ko key.length kc) L key W2 (hJ.row.isRgs hJ.bel) (HK.out.below hJ.bel)
        rw [HR.out] at hF
        have HFD := Lib.hid hF; have HJ := Lib.hid hJ; have HX2 := Lib.hid hx2
        have H1' := Lib.hid (H1.out.below hbW); have H2' := Lib.hid (H2.out.below hbW)
        clear h1 h2 hb hi2 HC hbW hx2 hJ hF H1 H2 HI2 hI
        go_wp2_with fail
        refine HFD.out.mono ?_
        rintro e w3 ⟨gv, uv, rfl, h1, h2, hb⟩
        have H3 := Lib.hid h1; have H4 := Lib.hid h2
        obtain ⟨go1, gc1, rfl, -, -, -⟩ := h1.form
        obtain ⟨uo1, uc1, rfl, -, -, -⟩ := h2.form
        obtain ⟨W3, hW3⟩ : ∃ W3, w3.alloc (.cells #[.int .i64 R.1, .slice go1 R.2.1.length gc1, .slice uo1 R.2.2.1.length uc1, .int .i64 R.2.2.2] 39) = W3 := ⟨_, rfl⟩
        have hbW : Below w3.heap.size w3 W3 := hW3 ▸ bel_alloc (.refl _ w3) _
        have hx3 : W3.heap[w3.heap.size]? = some (.cells #[.int .i64 R.1, .slice go1 R.2.1.length gc1, .slice uo1 R.2.2.1.length uc1, .int .i64 R.2.2.2] 39 (0, 0)) := by rw [← hW3]; exact heap_alloc_new w3 _
        have hb' := bel_call hb hbW
        have hK := HJ.out.below hb'
        have HX2' := Lib.hid ((hb'.block _ (Array.getElem?_eq_some_iff.1 HX2.out).1).trans HX2.out)
        have HX3 := Lib.hid hx3
        have A1 := Lib.hid (H1'.out.below hb'); have A2 := Lib.hid (H2'.out.below hb'); have A3 := Lib.hid (h1.below hbW); have A4 := Lib.hid (h2.below hbW)
        obtain ⟨v, t1, t2, t3⟩ := hK.tab
        have HCU := Lib.hid (tCut_any tb v (.slice fo pf.length fc) (.slice to pt.length tc) L pf pt W3 (by rw [cell_of_row W3 tb 0 _ _ _ t1]; rfl) t2.isRgs (HF.out.below hK.bel) (HT.out.below hK.bel) (by have := HG.out.2.1; omega) (good_big HG.out) l1 l2)
        have hs5 := (hK.bel.block _ HLT0.out).trans HBX.out
        have s0 : W3.cell? ⟨w.heap.size, 0, none⟩ = some (.slice fo pf.length fc) := by rw [cell_of_row W3 _ 0 _ _ _ hs5]; rfl
        have s1 : W3.cell? ⟨w.heap.size, 1, none⟩ = some (.slice to pt.length tc) := by rw [cell_of_row W3 _ 1 _ _ _ hs5]; rfl
        have HK3 := Lib.hid hK
        clear h1 h2 hb hbW hx3 hb' hK HX2 H3 H4 H1' H2' HFD HJ t1 t2 t3 hs5
        go_wp2_with fail
        refine HCU.out.mono ?_
        rintro e w4 ⟨pv, rfl, hp, hb⟩
        have hK := HK3.out.below hb
        have HCR := Lib.hid (rCut_any u9 (.slice fo pf.length fc) (.slice to pt.length tc) L pf pt w4 (hK.row.isRgs hK.bel) (HF.out.below hK.bel) (HT.out.below hK.bel) (by have := HG.out.2.1; omega))
        have hs5 := (hK.bel.block _ HLT0.out).trans HBX.out
        have s0 : w4.cell? ⟨w.heap.size, 0, none⟩ = some (.slice fo pf.length fc) := by rw [cell_of_row w4 _ 0 _ _ _ hs5]; rfl
        have s1 : w4.cell? ⟨w.heap.size, 1, none⟩ = some (.slice to pt.length tc) := by rw [cell_of_row w4 _ 1 _ _ _ hs5]; rfl
        have HP := Lib.hid hp; have HBB := Lib.hid hb; have HK4 := Lib.hid hK
        clear hp hb hK HCU HK3 hs5
        go_wp2_with fail
        refine HCR.out.mono ?_
        rintro e w5 ⟨qv, rfl, hq, hb⟩
        have hbb := bel_call HBB.out hb
        have hx2 := (hbb.block _ (Array.getElem?_eq_some_iff.1 HX2'.out).1).trans HX2'.out
        have hx3 := (hbb.block _ (Array.getElem?_eq_some_iff.1 HX3.out).1).trans HX3.out
        have a0 : w5.cell? ⟨w2.heap.size, 0, none⟩ = some (.int .i64 R.1) := by rw [cell_of_row w5 _ 0 _ _ _ hx2]; rfl
        have a1 : w5.cell? ⟨w2.heap.size, 1, none⟩ = some (.slice fo1 R.2.1.length fc1) := by rw [cell_of_row w5 _ 1 _ _ _ hx2]; rfl
        have a2 : w5.cell? ⟨w2.heap.size, 2, none⟩ = some (.slice to1 R.2.2.1.length tc1) := by rw [cell_of_row w5 _ 2 _ _ _ hx2]; rfl
        have a3 : w5.cell? ⟨w2.heap.size, 3, none⟩ = some (.int .i64 R.2.2.2) := by rw [cell_of_row w5 _ 3 _ _ _ hx2]; rfl
        have b0 : w5.cell? ⟨w3.heap.size, 0, none⟩ = some (.int .i64 R.1) := by rw [cell_of_row w5 _ 0 _ _ _ hx3]; rfl
        have b1 : w5.cell? ⟨w3.heap.size, 1, none⟩ = some (.slice go1 R.2.1.length gc1) := by rw [cell_of_row w5 _ 1 _ _ _ hx3]; rfl
        have b2 : w5.cell? ⟨w3.heap.size, 2, none⟩ = some (.slice uo1 R.2.2.1.length uc1) := by rw [cell_of_row w5 _ 2 _ _ _ hx3]; rfl
        have b3 : w5.cell? ⟨w3.heap.size, 3, none⟩ = some (.int .i64 R.2.2.2) := by rw [cell_of_row w5 _ 3 _ _ _ hx3]; rfl
        have hSM := rSame_any (.slice fo1 R.2.1.length fc1) (.slice to1 R.2.2.1.length tc1) (.slice go1 R.2.1.length gc1) (.slice uo1 R.2.2.1.length uc1) R.1 R.2.2.2 R.1 R.2.2.2 R.2.1 R.2.2.1 R.2.1 R.2.2.1 w5 (A1.out.below hbb) (A2.out.below hbb) (A3.out.below hbb) (A4.out.below hbb)
        rw [(sameB_iff (R.1, R.2.1, R.2.2.1, R.2.2.2) (R.1, R.2.1, R.2.2.1, R.2.2.2)).2 rfl] at hSM
        have HSM := Lib.hid hSM
        have HP5 := Lib.hid (HP.out.below ptR_stays hb); have HQ := Lib.hid hq; have HK5 := Lib.hid (HK4.out.below hb)
        clear hbb hx2 hx3 hSM hq hb HCR HP HBB HK4 HX2' HX3 A1 A2 A3 A4
        go_wp2_with fail
        refine HSM.out.mono ?_
        rintro e w6 ⟨rfl, hb⟩
        have hSP := rSameParts_any pv qv _ _ w6 (HP5.out.below ptR_stays hb) (HQ.out.below ptR_stays hb)
        rw [decide_eq_true rfl] at hSP
        have HSP := Lib.hid hSP; have HK6 := Lib.hid (HK5.out.below hb)
        obtain ⟨po, pc, rfl, -, -, -⟩ := HP5.out.form
        obtain ⟨qo, qc, rfl, -, -, -⟩ := HQ.out.form
        clear hSP hb HSM HP5 HQ HK5
        go_wp2_with fail
        refine HSP.out.mono ?_
        rintro e w7 ⟨rfl, hb⟩
        have HE := Lib.hid (HB0.out.trans ((HK6.out.below hb).bel.mono HB0.out.size))
        clear hb HSP
        go_wp2_with fail
        go_ret
        exact ⟨rfl, HE.out⟩
set_option maxRecDepth 100000 in
theorem cellsSpan : Try.prog.cellsOf 25 = 2 := by kernel_rfl
set_option maxRecDepth 100000 in
theorem span_cv {w : World} {base : Nat} {r : Reach} {v : Value} {d : List Int × List Int × Unit} (hv : Value.okWide Try.prog w r base 25 v) (h : Rd w spanTy v.cells.toList d) :
    ∃ l : List Int × List Int, (∃ c0 c1, v = .agg #[c0, c1] ∧ IsB w c0 l.1 ∧ IsB w c1 l.2) ∧ (Fits reachBytes spanTy d → l.1.length ≤ 140737488355328 ∧ l.2.length ≤ 140737488355328) := by
  obtain ⟨⟨cs⟩, rfl, hsz⟩ := Go.WideShapes.okWide_struct Try.underlying25 hv
  rw [cellsSpan] at hsz
  have hl : cs.length = 2 := hsz
  match cs, hl with
  | [c0, c1], _ =>
    have h' : Rd w spanTy [c0, c1] d := h
    obtain ⟨_, q⟩ := Rd.st' h'
    obtain ⟨q0, q⟩ := Rd.fc q
    obtain ⟨q1, _⟩ := Rd.fc q
    exact ⟨(d.1, d.2.1), ⟨c0, c1, rfl, isB_of_rd q0, isB_of_rd q1⟩, fun hf => (span_open h' hf).2.2⟩
set_option maxRecDepth 100000 in
theorem splits_walk1 (sv kv pv : Value) (sc : List ScD) (key : List Int) (p : List Int × List Int) (w : World) (hs : IsSc w sv sc) (hk : IsB w kv key) (hp : ∃ c0 c1, pv = .agg #[c0, c1] ∧ IsB w c0 p.1 ∧ IsB w c1 p.2) (hl : p.1.length ≤ 140737488355328 ∧ p.2.length ≤ 140737488355328) :
    Calls Try.prog 3 #[sv, kv, pv] w (Ret (.bool true) w) := by
  obtain ⟨c0, c1, rfl, h0, h1⟩ := hp
  exact splits_walk sv kv c0 c1 sc key p.1 p.2 w hs hk h0 h1 hl.1 hl.2
end Rm
end Go.Proofs.Ytbeniogffhihlaa
