/- rangemeta: the walk of RangemetaCaches. -/
import Derived.Test.YtbeniogffhihlaaRmCS
import Derived.Test.YtbeniogffhihlaaRmLoad
set_option linter.unusedVariables false
set_option linter.unusedSimpArgs false
namespace Go.Proofs.Ytbeniogffhihlaa
open Go.RowKit
namespace Rm
open PM
set_option maxRecDepth 100000 in
set_option maxHeartbeats 16000000 in
theorem caches_walk (sv : Value) (sc : List NtD) (w : World) (hs : IsNt w sv sc) (hsm : ∀ x ∈ sc, ntS x) :
    Calls Try.prog 9 #[sv] w (Ret (.bool true) w) := by
  obtain ⟨so, scap, rfl, -, -, -⟩ := hs.form
  have hscm := hs.max
  have HSC := Lib.hid hs
  have HSM := Lib.hid hsm
  clear hs hsm
  go_enter Try.func9, Try.ntmps9
  go_wp2_with fail
  refine (awake_any _).mono ?_
  rintro e w1 ⟨rfl, hb⟩
  have G1 := Lib.hid hb
  clear hb
  go_wp2_with fail
  refine (fresh_any _).mono ?_
  rintro e w2 ⟨rfl, hw2⟩
  have HI : Hid (CaI w w1.heap.size w1.heap.size (.slice none 0 0) w2 (.slice none 0 0) [] [] 0) := Lib.hid (by rw [← hw2]; exact CaI.start G1.out)
  obtain ⟨cb, hcb⟩ : ∃ cb, w1.heap.size = cb := ⟨_, rfl⟩
  rw [hcb] at HI ⊢
  obtain ⟨B, hB⟩ : ∃ B, cb = B := ⟨_, rfl⟩
  have HI' : Hid (∃ v, CaI w B cb v w2 (.slice none 0 0) [] [] 0) := Lib.hid ⟨_, by rw [← hB]; exact HI.out⟩
  clear hw2 hcb hB G1 HI
  go_wp2_with fail
  go_loopw [5, 6] (fun lv i wr => ∃ (k : Nat) (L : List RangeD), i = .int .i64 k ∧ k ≤ 200 ∧ Hid (∃ v, CaI w B cb v wr lv L L k)) (fun _ i _ => 200 - (intOf i).toNat)
  case atStart => exact ⟨0, _, rfl, by omega, HI'⟩
  case round =>
    obtain ⟨k, L, rfl, hk2, hI⟩ := hrel
    by_cases hlt : k < sc.length ∧ k < 200
    · obtain ⟨hlt1, hlt2⟩ := hlt
      obtain ⟨v, hI⟩ := hI.out
      obtain ⟨b, o, x, xfv, xtv, xkv, xpv, xqv, rfl, hbb, hx, ⟨c0', c1', c2', c3', c4', c5', c6', c7'⟩, hkx, hi64⟩ := IsNt.at8 HSC.out hlt1
      have hxs : ntS x := HSM.out x (List.mem_of_getElem? hx.out)
      obtain ⟨dd, r, key, pf, pt⟩ := x
      have c0 := (hI.bel.cell (p := ⟨b, o + k * 8, none⟩) hbb).trans c0'
      have c1 := (hI.bel.cell (p := ⟨b, o + k * 8 + 1, none⟩) hbb).trans c1'
      have c2 := (hI.bel.cell (p := ⟨b, o + k * 8 + 2, none⟩) hbb).trans c2'
      have c3 := (hI.bel.cell (p := ⟨b, o + k * 8 + 3, none⟩) hbb).trans c3'
      have c4 := (hI.bel.cell (p := ⟨b, o + k * 8 + 4, none⟩) hbb).trans c4'
      have c5 := (hI.bel.cell (p := ⟨b, o + k * 8 + 5, none⟩) hbb).trans c5'
      have c6 := (hI.bel.cell (p := ⟨b, o + k * 8 + 6, none⟩) hbb).trans c6'
      have c7 := (hI.bel.cell (p := ⟨b, o + k * 8 + 7, none⟩) hbb).trans c7'
      obtain ⟨p1, p2, p3, p4, p5⟩ := hkx.out
      obtain ⟨fo, fc, rfl, -, -, -⟩ := p1.form
      obtain ⟨to, tc, rfl, -, -, -⟩ := p2.form
      obtain ⟨ko, kc, rfl, -, -, -⟩ := p3.form
      obtain ⟨po, pc, rfl, -, -, -⟩ := p4.form
      obtain ⟨qo, qc, rfl, -, -, -⟩ := p5.form
      have HF := Lib.hid p1; have HT := Lib.hid p2; have HK := Lib.hid p3; have HP := Lib.hid p4; have HQ := Lib.hid p5
      have HXS := Lib.hid hxs
      obtain ⟨W1, hW1⟩ : ∃ W1, wr.alloc (.cells #[.int .i64 dd, .int .i64 r.1, .slice fo r.2.1.length fc, .slice to r.2.2.1.length tc, .int .i64 r.2.2.2, .slice ko key.length kc, .slice po pf.length pc, .slice qo pt.length qc] 69) = W1 := ⟨_, rfl⟩
      have hb1 : Below wr.heap.size wr W1 := hW1 ▸ bel_alloc (.refl _ wr) _
      have hx1 : W1.heap[wr.heap.size]? = some (.cells #[.int .i64 dd, .int .i64 r.1, .slice fo r.2.1.length fc, .slice to r.2.2.1.length tc, .int .i64 r.2.2.2, .slice ko key.length kc, .slice po pf.length pc, .slice qo pt.length qc] 69 (0, 0)) := by rw [← hW1]; exact heap_alloc_new wr _
      have d0 : W1.cell? ⟨wr.heap.size, 0, none⟩ = some (.int .i64 dd) := by rw [cell_of_row W1 _ 0 _ _ _ hx1]; rfl
      have d1 : W1.cell? ⟨wr.heap.size, 1, none⟩ = some (.int .i64 r.1) := by rw [cell_of_row W1 _ 1 _ _ _ hx1]; rfl
      have d2 : W1.cell? ⟨wr.heap.size, 2, none⟩ = some (.slice fo r.2.1.length fc) := by rw [cell_of_row W1 _ 2 _ _ _ hx1]; rfl
      have d3 : W1.cell? ⟨wr.heap.size, 3, none⟩ = some (.slice to r.2.2.1.length tc) := by rw [cell_of_row W1 _ 3 _ _ _ hx1]; rfl
      have d4 : W1.cell? ⟨wr.heap.size, 4, none⟩ = some (.int .i64 r.2.2.2) := by rw [cell_of_row W1 _ 4 _ _ _ hx1]; rfl
      have d5 : W1.cell? ⟨wr.heap.size, 5, none⟩ = some (.slice ko key.length kc) := by rw [cell_of_row W1 _ 5 _ _ _ hx1]; rfl
      have d6 : W1.cell? ⟨wr.heap.size, 6, none⟩ = some (.slice po pf.length pc) := by rw [cell_of_row W1 _ 6 _ _ _ hx1]; rfl
      have d7 : W1.cell? ⟨wr.heap.size, 7, none⟩ = some (.slice qo pt.length qc) := by rw [cell_of_row W1 _ 7 _ _ _ hx1]; rfl
      have HLT := Lib.hid hI.lt
      have HJ := Lib.hid (hI.below hb1)
      have HX1 := Lib.hid hx1
      have hlt1 : (k : Int) < sc.length := by omega
      have hlt2 : (k : Int) < 200 := by omega
      clear c0' c1' c2' c3' c4' c5' c6' c7' hb1 hx1 hI p1 p2 p3 p4 p5 hkx hxs
      have hd : dd = 0 ∨ dd = 1 ∨ dd = 2 ∨ dd = 3 ∨ (¬ dd = 0 ∧ ¬ dd = 1 ∧ ¬ dd = 2 ∧ ¬ dd = 3) := by omega
      rcases hd with rfl | rfl | rfl | rfl | ⟨n0, n1, n2, n3⟩
      · obtain ⟨Lz, hLz⟩ : ∃ Lz, learnL L r = Lz := ⟨_, rfl⟩
        obtain ⟨bb, hbb2⟩ : ∃ bb, learnB L r = bb := ⟨_, rfl⟩
        have hok : Ok Lz := hLz ▸ learn_ok r HJ.out.ok
        have hln : Lz.length ≤ k + 1 := by have := learn_len L r; have := HJ.out.len; rw [hLz] at *; omega
        have hC := learn_any B cb v (.slice fo r.2.1.length fc) (.slice to r.2.2.1.length tc) L r W1 HJ.out.blk HJ.out.own (by have := HJ.out.len; omega) HJ.out.ok.fair HJ.out.ok.srt (HF.out.below HJ.out.bel) (HT.out.below HJ.out.bel) hi64.out.2 HJ.out.hbs HXS.out.1 HXS.out.2.1
        rw [hLz, hbb2] at hC
        have HC := Lib.hid hC; have HOK := Lib.hid hok; have HLZ := Lib.hid hLz; have HBB := Lib.hid hbb2; have HLN := Lib.hid hln
        clear hC hok hLz hbb2 hln
        go_wp2_with fail
        refine HC.out.mono ?_
        intro e w2 hsp
        obtain ⟨vz, hj⟩ := HJ.out.sto hsp HOK.out HLN.out
        have hx2 : w2.heap[wr.heap.size]? = some (.cells #[.int .i64 0, .int .i64 r.1, .slice fo r.2.1.length fc, .slice to r.2.2.1.length tc, .int .i64 r.2.2.2, .slice ko key.length kc, .slice po pf.length pc, .slice qo pt.length qc] 69 (0, 0)) := by
          obtain ⟨-, v2, -, -, h3, -⟩ := hsp
          refine (h3.block _ (Array.getElem?_eq_some_iff.1 HX1.out).1 ?_).trans HX1.out
          rintro (h4 | h4)
          · have := HLT.out; omega
          · obtain ⟨-, -, cur, hc⟩ := HJ.out.own.typed _ h4
            exact absurd (types_apart hc HX1.out) (by decide)
        obtain ⟨rfl, -⟩ := hsp
        have d1 : w2.cell? ⟨wr.heap.size, 1, none⟩ = some (.int .i64 r.1) := by rw [cell_of_row w2 _ 1 _ _ _ hx2]; rfl
        have d2 : w2.cell? ⟨wr.heap.size, 2, none⟩ = some (.slice fo r.2.1.length fc) := by rw [cell_of_row w2 _ 2 _ _ _ hx2]; rfl
        have d3 : w2.cell? ⟨wr.heap.size, 3, none⟩ = some (.slice to r.2.2.1.length tc) := by rw [cell_of_row w2 _ 3 _ _ _ hx2]; rfl
        have d4 : w2.cell? ⟨wr.heap.size, 4, none⟩ = some (.int .i64 r.2.2.2) := by rw [cell_of_row w2 _ 4 _ _ _ hx2]; rfl
        have hC2 := rLearn_any (hidC cb vz) u5 (.slice fo r.2.1.length fc) (.slice to r.2.2.1.length tc) L r w w2 hj.row HF.out HT.out hi64.out.2 hj.bel hj.hidB (by have := hj.len; omega) hj.ok.ne
        rw [HLZ.out, HBB.out] at hC2
        have HC2 := Lib.hid hC2; have HJ2 := Lib.hid hj
        clear hC2 hj hx2 HC HJ HX1
        go_wp2_with fail
        refine HC2.out.mono ?_
        rintro e wz ⟨lvz, rfl, hr, hb⟩
        have HZ := Lib.hid (HJ2.out.ref hr hb)
        clear hr hb HC2 HJ2 d1 d2 d3 d4
        cases bb
        all_goals
          have HKN := Lib.hid (known_any cb vz Lz wz HZ.out.cell HZ.out.own.isRgs (by have := HZ.out.len; omega) (ok_big HZ.out.ok))
          go_wp2_with fail
          refine HKN.out.mono ?_
          rintro e w8 ⟨u, rfl, ho, hb⟩
          have hz := HZ.out.below hb
          have hSR := rSameRanges_any lvz u Lz Lz w8 hz.row.isRgs ho.isRgs
          rw [decide_eq_true rfl] at hSR
          have HSR := Lib.hid hSR; have HZ2 := Lib.hid hz
          clear ho hb hz hSR HKN HZ
          go_wp2_with fail
          refine HSR.out.mono ?_
          rintro e w9 ⟨rfl, hb⟩
          have HZ3 := Lib.hid (HZ2.out.below hb)
          clear hb HSR HZ2
          have hw1 := IntWalk.i64_in ((k : Int) + 1) (by omega)
          go_wp2_with fail
          go_roundw
          case rel => exact ⟨k + 1, Lz, by go_num, by omega, Lib.hid ⟨vz, HZ3.out⟩⟩
          case measure => simp [intOf]; omega
      · obtain ⟨Lz, hLz⟩ : ∃ Lz, (L.filter fun y => !(y.1 == r.1)) = Lz := ⟨_, rfl⟩
        obtain ⟨bb, hbb2⟩ : ∃ bb, decide (Lz.length < L.length) = bb := ⟨_, rfl⟩
        have hok : Ok Lz := hLz ▸ HJ.out.ok.filter _
        have hln : Lz.length ≤ k + 1 := by have : Lz.length ≤ L.length := hLz ▸ List.length_filter_le _ _; have := HJ.out.len; omega
        have hC := forget_any B cb r.1 v L W1 HJ.out.blk HJ.out.own (by have := HJ.out.len; omega)
        rw [hLz, hbb2] at hC
        have HC := Lib.hid hC; have HOK := Lib.hid hok; have HLZ := Lib.hid hLz; have HBB := Lib.hid hbb2; have HLN := Lib.hid hln
        clear hC hok hLz hbb2 hln
        go_wp2_with fail
        refine HC.out.mono ?_
        intro e w2 hsp
        obtain ⟨vz, hj⟩ := HJ.out.sto hsp HOK.out HLN.out
        have hx2 : w2.heap[wr.heap.size]? = some (.cells #[.int .i64 1, .int .i64 r.1, .slice fo r.2.1.length fc, .slice to r.2.2.1.length tc, .int .i64 r.2.2.2, .slice ko key.length kc, .slice po pf.length pc, .slice qo pt.length qc] 69 (0, 0)) := by
          obtain ⟨-, v2, -, -, h3, -⟩ := hsp
          refine (h3.block _ (Array.getElem?_eq_some_iff.1 HX1.out).1 ?_).trans HX1.out
          rintro (h4 | h4)
          · have := HLT.out; omega
          · obtain ⟨-, -, cur, hc⟩ := HJ.out.own.typed _ h4
            exact absurd (types_apart hc HX1.out) (by decide)
        obtain ⟨rfl, -⟩ := hsp
        have d1 : w2.cell? ⟨wr.heap.size, 1, none⟩ = some (.int .i64 r.1) := by rw [cell_of_row w2 _ 1 _ _ _ hx2]; rfl
        have hC2 := rForget_any (hidC cb vz) u5 L r.1 w2 hj.row hi64.out.2.1 (fun b hb => (hj.hidB b hb).2) (by have := hj.len; omega)
        rw [HLZ.out, HBB.out] at hC2
        have HC2 := Lib.hid hC2; have HJ2 := Lib.hid hj
        clear hC2 hj hx2 HC HJ HX1
        go_wp2_with fail
        refine HC2.out.mono ?_
        rintro e wz ⟨lvz, rfl, hr, hb⟩
        have HZ := Lib.hid (HJ2.out.ref hr hb)
        clear hr hb HC2 HJ2 d1
        cases bb
        all_goals
          have HKN := Lib.hid (known_any cb vz Lz wz HZ.out.cell HZ.out.own.isRgs (by have := HZ.out.len; omega) (ok_big HZ.out.ok))
          go_wp2_with fail
          refine HKN.out.mono ?_
          rintro e w8 ⟨u, rfl, ho, hb⟩
          have hz := HZ.out.below hb
          have hSR := rSameRanges_any lvz u Lz Lz w8 hz.row.isRgs ho.isRgs
          rw [decide_eq_true rfl] at hSR
          have HSR := Lib.hid hSR; have HZ2 := Lib.hid hz
          clear ho hb hz hSR HKN HZ
          go_wp2_with fail
          refine HSR.out.mono ?_
          rintro e w9 ⟨rfl, hb⟩
          have HZ3 := Lib.hid (HZ2.out.below hb)
          clear hb HSR HZ2
          have hw1 := IntWalk.i64_in ((k : Int) + 1) (by omega)
          go_wp2_with fail
          go_roundw
          case rel => exact ⟨k + 1, Lz, by go_num, by omega, Lib.hid ⟨vz, HZ3.out⟩⟩
          case measure => simp [intOf]; omega
      · obtain ⟨R, hR⟩ : ∃ R, (findF L key).getD zeroR = R := ⟨_, rfl⟩
        obtain ⟨bb, hbb2⟩ : ∃ bb, (findF L key).isSome = bb := ⟨_, rfl⟩
        have hC := cFind_any cb v (.slice ko key.length kc) L key W1 HJ.out.cell HJ.out.lt HJ.out.own.isRgs (HK.out.below HJ.out.bel) (ok_big HJ.out.ok)
        rw [hR, hbb2] at hC
        have HC := Lib.hid hC; have HR := Lib.hid hR; have HBB := Lib.hid hbb2
        clear hC hR hbb2
        go_wp2_with fail
        refine HC.out.mono ?_
        rintro e w2 ⟨fv, tv, rfl, h1, h2, hb⟩
        have H1 := Lib.hid h1.isB; have H2 := Lib.hid h2.isB
        obtain ⟨fo1, fc1, rfl, -, -, -, -⟩ := h1.form
        obtain ⟨to1, tc1, rfl, -, -, -, -⟩ := h2.form
        obtain ⟨W2, hW2⟩ : ∃ W2, w2.alloc (.cells #[.int .i64 R.1, .slice fo1 R.2.1.length fc1, .slice to1 R.2.2.1.length tc1, .int .i64 R.2.2.2] 39) = W2 := ⟨_, rfl⟩
        have hbW : Below w2.heap.size w2 W2 := hW2 ▸ bel_alloc (.refl _ w2) _
        have hx2 : W2.heap[w2.heap.size]? = some (.cells #[.int .i64 R.1, .slice fo1 R.2.1.length fc1, .slice to1 R.2.2.1.length tc1, .int .i64 R.2.2.2] 39 (0, 0)) := by rw [← hW2]; exact heap_alloc_new w2 _
        have hbb2 := bel_call hb hbW
        have hx1 := (hbb2.block _ (Array.getElem?_eq_some_iff.1 HX1.out).1).trans HX1.out
        have d5 : W2.cell? ⟨wr.heap.size, 5, none⟩ = some (.slice ko key.length kc) := by rw [cell_of_row W2 _ 5 _ _ _ hx1]; rfl
        have hj := HJ.out.below hbb2
        have hF := rFind_any u5 (.slice ko key.length kc) L key W2 hj.row.isRgs (HK.out.below hj.bel)
        rw [HR.out, HBB.out] at hF
        have HFD := Lib.hid hF; have HJ2 := Lib.hid hj; have HX2 := Lib.hid hx2
        have H1' := Lib.hid (H1.out.below hbW); have H2' := Lib.hid (H2.out.below hbW)
        clear h1 h2 hb HC hbW hx2 hx1 hj hF H1 H2 HJ HX1 hbb2
        go_wp2_with fail
        refine HFD.out.mono ?_
        rintro e w3 ⟨gv, uv, rfl, h1, h2, hb⟩
        obtain ⟨go1, gc1, rfl, -, -, -⟩ := h1.form
        obtain ⟨uo1, uc1, rfl, -, -, -⟩ := h2.form
        obtain ⟨W3, hW3⟩ : ∃ W3, w3.alloc (.cells #[.int .i64 R.1, .slice go1 R.2.1.length gc1, .slice uo1 R.2.2.1.length uc1, .int .i64 R.2.2.2] 39) = W3 := ⟨_, rfl⟩
        have hbW : Below w3.heap.size w3 W3 := hW3 ▸ bel_alloc (.refl _ w3) _
        have hx3 : W3.heap[w3.heap.size]? = some (.cells #[.int .i64 R.1, .slice go1 R.2.1.length gc1, .slice uo1 R.2.2.1.length uc1, .int .i64 R.2.2.2] 39 (0, 0)) := by rw [← hW3]; exact heap_alloc_new w3 _
        have hbb3 := bel_call hb hbW
        have hx2 := (hbb3.block _ (Array.getElem?_eq_some_iff.1 HX2.out).1).trans HX2.out
        have a0 : W3.cell? ⟨w2.heap.size, 0, none⟩ = some (.int .i64 R.1) := by rw [cell_of_row W3 _ 0 _ _ _ hx2]; rfl
        have a1 : W3.cell? ⟨w2.heap.size, 1, none⟩ = some (.slice fo1 R.2.1.length fc1) := by rw [cell_of_row W3 _ 1 _ _ _ hx2]; rfl
        have a2 : W3.cell? ⟨w2.heap.size, 2, none⟩ = some (.slice to1 R.2.2.1.length tc1) := by rw [cell_of_row W3 _ 2 _ _ _ hx2]; rfl
        have a3 : W3.cell? ⟨w2.heap.size, 3, none⟩ = some (.int .i64 R.2.2.2) := by rw [cell_of_row W3 _ 3 _ _ _ hx2]; rfl
        have b0 : W3.cell? ⟨w3.heap.size, 0, none⟩ = some (.int .i64 R.1) := by rw [cell_of_row W3 _ 0 _ _ _ hx3]; rfl
        have b1 : W3.cell? ⟨w3.heap.size, 1, none⟩ = some (.slice go1 R.2.1.length gc1) := by rw [cell_of_row W3 _ 1 _ _ _ hx3]; rfl
        have b2 : W3.cell? ⟨w3.heap.size, 2, none⟩ = some (.slice uo1 R.2.2.1.length uc1) := by rw [cell_of_row W3 _ 2 _ _ _ hx3]; rfl
        have b3 : W3.cell? ⟨w3.heap.size, 3, none⟩ = some (.int .i64 R.2.2.2) := by rw [cell_of_row W3 _ 3 _ _ _ hx3]; rfl
        have hSM := rSame_any (.slice fo1 R.2.1.length fc1) (.slice to1 R.2.2.1.length tc1) (.slice go1 R.2.1.length gc1) (.slice uo1 R.2.2.1.length uc1) R.1 R.2.2.2 R.1 R.2.2.2 R.2.1 R.2.2.1 R.2.1 R.2.2.1 W3 (H1'.out.below hbb3) (H2'.out.below hbb3) (h1.below hbW) (h2.below hbW)
        rw [(sameB_iff (R.1, R.2.1, R.2.2.1, R.2.2.2) (R.1, R.2.1, R.2.2.1, R.2.2.2)).2 rfl] at hSM
        have HSM := Lib.hid hSM
        have HJ3 := Lib.hid (HJ2.out.below hbb3)
        clear h1 h2 hb hbW hx3 hx2 hbb3 hSM HX2 H1' H2' HFD HJ2 d5
        go_wp2_with fail
        refine HSM.out.mono ?_
        rintro e wz ⟨rfl, hb⟩
        obtain ⟨lvz, hlvz⟩ : ∃ lvz, u5 = lvz := ⟨_, rfl⟩
        obtain ⟨Lz, hLz⟩ : ∃ Lz, L = Lz := ⟨_, rfl⟩
        obtain ⟨vz, hvz⟩ : ∃ vz, v = vz := ⟨_, rfl⟩
        have HZ := Lib.hid ((HJ3.out.below hb).up (Nat.le_succ k))
        rw [hlvz, hLz, hvz] at HZ
        rw [hlvz]
        clear hb HSM HJ3 a0 a1 a2 a3 b0 b1 b2 b3
        cases bb
        all_goals
          have HKN := Lib.hid (known_any cb vz Lz wz HZ.out.cell HZ.out.own.isRgs (by have := HZ.out.len; omega) (ok_big HZ.out.ok))
          go_wp2_with fail
          refine HKN.out.mono ?_
          rintro e w8 ⟨u, rfl, ho, hb⟩
          have hz := HZ.out.below hb
          have hSR := rSameRanges_any lvz u Lz Lz w8 hz.row.isRgs ho.isRgs
          rw [decide_eq_true rfl] at hSR
          have HSR := Lib.hid hSR; have HZ2 := Lib.hid hz
          clear ho hb hz hSR HKN HZ
          go_wp2_with fail
          refine HSR.out.mono ?_
          rintro e w9 ⟨rfl, hb⟩
          have HZ3 := Lib.hid (HZ2.out.below hb)
          clear hb HSR HZ2
          have hw1 := IntWalk.i64_in ((k : Int) + 1) (by omega)
          go_wp2_with fail
          go_roundw
          case rel => exact ⟨k + 1, Lz, by go_num, by omega, Lib.hid ⟨vz, HZ3.out⟩⟩
          case measure => simp [intOf]; omega
      · obtain ⟨Q, hQ⟩ : ∃ Q, cutL L (pf, pt) = Q := ⟨_, rfl⟩
        obtain ⟨M, hM⟩ : ∃ M, leftL L pf pt = M := ⟨_, rfl⟩
        have hC := cCut_any cb v (.slice po pf.length pc) (.slice qo pt.length qc) L pf pt W1 HJ.out.cell HJ.out.own.isRgs (HP.out.below HJ.out.bel) (HQ.out.below HJ.out.bel) (by have := HJ.out.len; omega) HJ.out.ok (ok_big HJ.out.ok) HXS.out.2.2.1 HXS.out.2.2.2
        rw [hQ, hM] at hC
        have HC := Lib.hid hC; have HQ2 := Lib.hid hQ; have HM := Lib.hid hM
        clear hC hQ hM
        go_wp2_with fail
        refine HC.out.mono ?_
        rintro e w2 ⟨pv, mv, rfl, hp, hm, hb⟩
        obtain ⟨pao, pac, rfl, -, -, -⟩ := hp.form
        obtain ⟨mao, mac, rfl, -, -, -⟩ := hm.form
        have hx2 := (hb.block _ (Array.getElem?_eq_some_iff.1 HX1.out).1).trans HX1.out
        have d6 : w2.cell? ⟨wr.heap.size, 6, none⟩ = some (.slice po pf.length pc) := by rw [cell_of_row w2 _ 6 _ _ _ hx2]; rfl
        have d7 : w2.cell? ⟨wr.heap.size, 7, none⟩ = some (.slice qo pt.length qc) := by rw [cell_of_row w2 _ 7 _ _ _ hx2]; rfl
        have hj := HJ.out.below hb
        have hC2 := rCut_any u5 (.slice po pf.length pc) (.slice qo pt.length qc) L pf pt w2 hj.row.isRgs (HP.out.below hj.bel) (HQ.out.below hj.bel) (by have := hj.len; omega)
        rw [HQ2.out] at hC2
        have HC2 := Lib.hid hC2; have HJ2 := Lib.hid hj; have HX2 := Lib.hid hx2
        have HPV := Lib.hid hp; have HMV := Lib.hid hm
        clear hp hm hb hx2 hj hC2 HC HJ HX1
        go_wp2_with fail
        refine HC2.out.mono ?_
        rintro e w3 ⟨qv, rfl, hq, hb⟩
        obtain ⟨qao, qac, rfl, -, -, -⟩ := hq.form
        have hx3 := (hb.block _ (Array.getElem?_eq_some_iff.1 HX2.out).1).trans HX2.out
        have d6 : w3.cell? ⟨wr.heap.size, 6, none⟩ = some (.slice po pf.length pc) := by rw [cell_of_row w3 _ 6 _ _ _ hx3]; rfl
        have d7 : w3.cell? ⟨wr.heap.size, 7, none⟩ = some (.slice qo pt.length qc) := by rw [cell_of_row w3 _ 7 _ _ _ hx3]; rfl
        have hj := HJ2.out.below hb
        have hC3 := rLeft_any u5 (.slice po pf.length pc) (.slice qo pt.length qc) L pf pt w3 hj.row.isRgs (HP.out.below hj.bel) (HQ.out.below hj.bel) (by have := hj.len; omega)
        rw [HM.out] at hC3
        have HC3 := Lib.hid hC3; have HJ3 := Lib.hid hj
        have HPV3 := Lib.hid (HPV.out.below ptR_stays hb); have HMV3 := Lib.hid (HMV.out.below spR_stays hb); have HQV := Lib.hid hq
        clear hq hb hx3 hj hC3 HC2 HJ2 HX2 HPV HMV
        go_wp2_with fail
        refine HC3.out.mono ?_
        rintro e w4 ⟨nv, rfl, hn, hb⟩
        obtain ⟨nao, nac, rfl, -, -, -⟩ := hn.form
        have hS := rSameParts_any (.slice pao Q.length pac) (.slice qao Q.length qac) Q Q w4 (HPV3.out.below ptR_stays hb) (HQV.out.below ptR_stays hb)
        rw [decide_eq_true rfl] at hS
        have HS := Lib.hid hS; have HJ4 := Lib.hid (HJ3.out.below hb)
        have HMV4 := Lib.hid (HMV3.out.below spR_stays hb); have HNV4 := Lib.hid hn
        clear hn hb hS HC3 HJ3 HPV3 HQV HMV3 d6 d7
        go_wp2_with fail
        refine HS.out.mono ?_
        rintro e w5 ⟨rfl, hb⟩
        have HJ5 := Lib.hid (HJ4.out.below hb)
        have HMV5 := Lib.hid (HMV4.out.below spR_stays hb); have HNV5 := Lib.hid (HNV4.out.below spR_stays hb)
        have hml : M.length ≤ 1000 := by have := leftL_len L pf pt; have := HJ5.out.len; rw [HM.out] at *; omega
        clear hb HS HJ4 HMV4 HNV4
        go_wp2_with fail
        go_loopw [24] (fun i wq => ∃ (j : Nat), i = .int .i64 j ∧ j ≤ M.length ∧ Hid (Below w5.heap.size w5 wq)) (fun i _ => M.length - (intOf i).toNat)
        case atStart => exact ⟨0, rfl, Nat.zero_le _, Lib.hid (Below.refl _ _)⟩
        case round =>
          obtain ⟨j, rfl, hj2, hB2⟩ := hrel
          by_cases hjl : j < M.length
          · obtain ⟨b1, o1, y, yfv, ytv, hao1, hb1, hy, e0', e1', hyf, hyt⟩ := IsSps.at2 HMV5.out hjl
            obtain ⟨b2, o2, z, zfv, ztv, hao2, hb2, hz, g0', g1', hzf, hzt⟩ := IsSps.at2 HNV5.out hjl
            subst hao1 hao2
            obtain rfl : z = y := by have := hz.out; rw [hy.out] at this; exact (Option.some.inj this).symm
            have e0 := (hB2.out.cell (p := ⟨b1, o1 + j * 2, none⟩) hb1).trans e0'
            have e1 := (hB2.out.cell (p := ⟨b1, o1 + j * 2 + 1, none⟩) hb1).trans e1'
            have g0 := (hB2.out.cell (p := ⟨b2, o2 + j * 2, none⟩) hb2).trans g0'
            have g1 := (hB2.out.cell (p := ⟨b2, o2 + j * 2 + 1, none⟩) hb2).trans g1'
            obtain ⟨yfo, yfc, rfl, -, -, -⟩ := hyf.form
            obtain ⟨yto, ytc, rfl, -, -, -⟩ := hyt.form
            obtain ⟨zfo, zfc, rfl, -, -, -⟩ := hzf.form
            obtain ⟨zto, ztc, rfl, -, -, -⟩ := hzt.form
            have q1 := fun nq => (hyf.below (below_drewN hB2.out nq)).conv Try.underlying23 Try.underlying5 Try.underlying9
            have q2 := fun nq => (hyt.below (below_drewN hB2.out nq)).conv Try.underlying23 Try.underlying5 Try.underlying9
            have q3 := fun nq => (hzf.below (below_drewN hB2.out nq)).conv Try.underlying23 Try.underlying5 Try.underlying9
            have q4 := fun nq => (hzt.below (below_drewN hB2.out nq)).conv Try.underlying23 Try.underlying5 Try.underlying9
            have hj1 : (j : Int) < M.length := by omega
            have hj0 : 0 ≤ (j : Int) := by omega
            have hw1 := IntWalk.i64_in ((j : Int) + 1) (by omega)
            have E0 := Lib.hid e0'; have E1 := Lib.hid e1'; have G0 := Lib.hid g0'; have G1 := Lib.hid g1'
            have zb1 : b1 < wr.heap.size := Nat.lt_of_lt_of_le hb1 hB2.out.size
            have zb2 : b2 < wr.heap.size := Nat.lt_of_lt_of_le hb2 hB2.out.size
            clear e0' e1' g0' g1' hyf hyt hzf hzt
            go_wp2_with fail
            go_quiet (fail)
            go_wp2_with fail
            go_roundw
            case rel => exact ⟨j + 1, by go_num, by omega, Lib.hid (below_drewN hB2.out _)⟩
            case measure => simp [intOf]; omega
          · obtain rfl : j = M.length := by omega
            obtain ⟨wz, hwz⟩ : ∃ wz, wr = wz := ⟨_, rfl⟩
            have HZ := Lib.hid ((HJ5.out.below hB2.out).up (Nat.le_succ k))
            rw [hwz] at HZ ⊢
            have hirr : ¬ ((M.length : Int) < M.length) := by omega
            have HKN := Lib.hid (known_any cb v L wz HZ.out.cell HZ.out.own.isRgs (by have := HZ.out.len; omega) (ok_big HZ.out.ok))
            go_wp2_with fail
            refine HKN.out.mono ?_
            rintro e w8 ⟨u, rfl, ho, hb⟩
            have hz := HZ.out.below hb
            have hSR := rSameRanges_any u5 u L L w8 hz.row.isRgs ho.isRgs
            rw [decide_eq_true rfl] at hSR
            have HSR := Lib.hid hSR; have HZ2 := Lib.hid hz
            clear ho hb hz hSR HKN HZ
            go_wp2_with fail
            refine HSR.out.mono ?_
            rintro e w9 ⟨rfl, hb⟩
            have HZ3 := Lib.hid (HZ2.out.below hb)
            clear hb HSR HZ2
            have hw1 := IntWalk.i64_in ((k : Int) + 1) (by omega)
            go_wp2_with fail
            go_roundw
            case rel => exact ⟨k + 1, L, by go_num, by omega, Lib.hid ⟨v, HZ3.out⟩⟩
            case measure => simp [intOf]; omega
      · have HZ := Lib.hid (HJ.out.up (Nat.le_succ k))
        have HKN := Lib.hid (known_any cb v L W1 HZ.out.cell HZ.out.own.isRgs (by have := HZ.out.len; omega) (ok_big HZ.out.ok))
        go_wp2_with fail
        refine HKN.out.mono ?_
        rintro e w8 ⟨u, rfl, ho, hb⟩
        have hz := HZ.out.below hb
        have hSR := rSameRanges_any u5 u L L w8 hz.row.isRgs ho.isRgs
        rw [decide_eq_true rfl] at hSR
        have HSR := Lib.hid hSR; have HZ2 := Lib.hid hz
        clear ho hb hz hSR HKN HZ
        go_wp2_with fail
        refine HSR.out.mono ?_
        rintro e w9 ⟨rfl, hb⟩
        have HZ3 := Lib.hid (HZ2.out.below hb)
        clear hb HSR HZ2
        have hw1 := IntWalk.i64_in ((k : Int) + 1) (by omega)
        go_wp2_with fail
        go_roundw
        case rel => exact ⟨k + 1, L, by go_num, by omega, Lib.hid ⟨v, HZ3.out⟩⟩
        case measure => simp [intOf]; omega
    · have HE := Lib.hid (hI.out.choose_spec.bel)
      have hdone : ¬ (k : Int) < sc.length ∨ ((k : Int) < sc.length ∧ ¬ (k : Int) < 200) := by omega
      clear hlt
      rcases hdone with hd | ⟨hd, hd'⟩
      all_goals go_wp2_with fail
      all_goals go_ret
      all_goals exact ⟨rfl, HE.out⟩
end Rm
end Go.Proofs.Ytbeniogffhihlaa
