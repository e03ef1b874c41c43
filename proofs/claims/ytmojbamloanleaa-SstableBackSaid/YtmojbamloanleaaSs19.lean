/- sstable: the program's Build (walk). -/
import Derived.Test.YtmojbamloanleaaSs18
import Derived.Test.YtmojbamloanleaaSs1
import Derived.Test.YtmojbamloanleaaEq
set_option linter.unusedVariables false
set_option linter.unusedSimpArgs false
namespace Go.Proofs.Ytmojbamloanleaa
open Go.RowKit
namespace Ss
open Mt Codec
theorem nil_or_snoc {α : Type} (l : List α) : l = [] ∨ ∃ l' x, l = l' ++ [x] := by
  rcases List.eq_nil_or_concat l with h | ⟨l', x, h⟩
  · exact .inl h
  · exact .inr ⟨l', x, by rw [h, List.concat_eq_append]⟩
set_option maxRecDepth 100000 in
set_option maxHeartbeats 8000000 in
theorem build_any (lv : Value) (l : List En) (bb pk : Int) (w : World) (hl : IsEs w lv l) (hbb : I64 bb) (hpk : I64 pk) :
    Calls Try.prog 11 #[lv, .int .i64 bb, .int .i64 pk] w (BuildP l bb pk w) := by
  obtain ⟨i0, hi0, hz0, hz1, hz2⟩ := info_parts infoSl
  have HI := Lib.hid hi0; have HZ0 := Lib.hid hz0; have HZ1 := Lib.hid hz1; have HZ2 := Lib.hid hz2
  obtain ⟨lo, lc, rfl, -, -, hlz⟩ := hl.form
  have HL := Lib.hid hl
  clear hi0 hz0 hz1 hz2
  by_cases hA : bb < 64 ∨ 65536 < bb ∨ pk < 1 ∨ 30 < pk
  · have HC : Hid (codeF l bb pk = 1) := Lib.hid (by unfold codeF; rw [if_pos hA])
    have h1 : (decide (bb < 64) || decide (65536 < bb) || decide (pk < 1) || decide (30 < pk)) = true := by simpa [or_assoc] using hA
    clear hl hA
    rcases Int.lt_or_le bb 64 with q1 | q1
    · go_enter Try.func11, Try.ntmps11
      go_wp2_with fail
      refine bodyPost_ret (v := .tuple #[.slice none 0 0, .int .i64 1]) (by first | (simp [results, Try.results11, go_sem]; done) | (simp [results, Try.results11, go_sem]; go_simp)) rfl (buildP_no HC.out (by decide) (by repeat' (first | (with_reducible exact Below.refl _ _) | (with_reducible assumption) | (with_reducible refine Below.drew ?_) | (with_reducible refine below_drewN ?_ _) | (with_reducible refine bel_alloc ?_ _) | (with_reducible refine Below.setCell ?_ ?_ _) | (with_reducible refine bel_call ?_ (by assumption)) | (simp <;> omega))))
    rcases Int.lt_or_le 65536 bb with q2 | q2
    · go_enter Try.func11, Try.ntmps11
      go_wp2_with fail
      refine bodyPost_ret (v := .tuple #[.slice none 0 0, .int .i64 1]) (by first | (simp [results, Try.results11, go_sem]; done) | (simp [results, Try.results11, go_sem]; go_simp)) rfl (buildP_no HC.out (by decide) (by repeat' (first | (with_reducible exact Below.refl _ _) | (with_reducible assumption) | (with_reducible refine Below.drew ?_) | (with_reducible refine below_drewN ?_ _) | (with_reducible refine bel_alloc ?_ _) | (with_reducible refine Below.setCell ?_ ?_ _) | (with_reducible refine bel_call ?_ (by assumption)) | (simp <;> omega))))
    rcases Int.lt_or_le pk 1 with q3 | q3
    · go_enter Try.func11, Try.ntmps11
      go_wp2_with fail
      refine bodyPost_ret (v := .tuple #[.slice none 0 0, .int .i64 1]) (by first | (simp [results, Try.results11, go_sem]; done) | (simp [results, Try.results11, go_sem]; go_simp)) rfl (buildP_no HC.out (by decide) (by repeat' (first | (with_reducible exact Below.refl _ _) | (with_reducible assumption) | (with_reducible refine Below.drew ?_) | (with_reducible refine below_drewN ?_ _) | (with_reducible refine bel_alloc ?_ _) | (with_reducible refine Below.setCell ?_ ?_ _) | (with_reducible refine bel_call ?_ (by assumption)) | (simp <;> omega))))
    have q4 : 30 < pk := by simp at h1; omega
    go_enter Try.func11, Try.ntmps11
    go_wp2_with fail
    refine bodyPost_ret (v := .tuple #[.slice none 0 0, .int .i64 1]) (by first | (simp [results, Try.results11, go_sem]; done) | (simp [results, Try.results11, go_sem]; go_simp)) rfl (buildP_no HC.out (by decide) (by repeat' (first | (with_reducible exact Below.refl _ _) | (with_reducible assumption) | (with_reducible refine Below.drew ?_) | (with_reducible refine below_drewN ?_ _) | (with_reducible refine bel_alloc ?_ _) | (with_reducible refine Below.setCell ?_ ?_ _) | (with_reducible refine bel_call ?_ (by assumption)) | (simp <;> omega))))
  have hA' := hA
  rw [not_or, not_or, not_or] at hA'
  obtain ⟨q1, q2, q3, q4⟩ := hA'
  by_cases hB : l.length < 1 ∨ 65536 < l.length
  · have HC : Hid (codeF l bb pk = 40) := Lib.hid (by unfold codeF; rw [if_neg hA, if_pos hB])
    clear hA
    by_cases r1 : l.length < 1
    · have r2 : ((l.length : Int) == 0) = true := beq_iff_eq.2 (by omega)
      have r3 : (l.length : Int) = 0 := by omega
      clear hB hl
      go_enter Try.func11, Try.ntmps11
      go_wp2_with fail
      refine bodyPost_ret (v := .tuple #[.slice none 0 0, .int .i64 40]) (by first | (simp [results, Try.results11, go_sem]; done) | (simp [results, Try.results11, go_sem]; go_simp)) rfl (buildP_no HC.out (by decide) (by repeat' (first | (with_reducible exact Below.refl _ _) | (with_reducible assumption) | (with_reducible refine Below.drew ?_) | (with_reducible refine below_drewN ?_ _) | (with_reducible refine bel_alloc ?_ _) | (with_reducible refine Below.setCell ?_ ?_ _) | (with_reducible refine bel_call ?_ (by assumption)) | (simp <;> omega))))
    have r2 : ((l.length : Int) == 0) = false := beq_eq_false_iff_ne.2 (by omega)
    have r3 : (65536 : Int) < l.length := by omega
    clear hB hl
    go_enter Try.func11, Try.ntmps11
    go_wp2_with fail
    refine bodyPost_ret (v := .tuple #[.slice none 0 0, .int .i64 40]) (by first | (simp [results, Try.results11, go_sem]; done) | (simp [results, Try.results11, go_sem]; go_simp)) rfl (buildP_no HC.out (by decide) (by repeat' (first | (with_reducible exact Below.refl _ _) | (with_reducible assumption) | (with_reducible refine Below.drew ?_) | (with_reducible refine below_drewN ?_ _) | (with_reducible refine bel_alloc ?_ _) | (with_reducible refine Below.setCell ?_ ?_ _) | (with_reducible refine bel_call ?_ (by assumption)) | (simp <;> omega))))
  have r2 : ((l.length : Int) == 0) = false := beq_eq_false_iff_ne.2 (by omega)
  have r3 : ¬ (65536 : Int) < l.length := by omega
  have hC : codeF l bb pk = if chkF [] l ≠ 0 then chkF [] l
    else if 4194304 < valF l ∨ 2097152 < (idxF (blksF l bb)).length ∨ 4194304 < (tableF l (blksF l bb) bb.toNat pk.toNat).length then 43 else 0 := by
    unfold codeF
    rw [if_neg hA, if_neg hB]
  have HC := Lib.hid hC
  have hll : l.length ≤ 65536 := by omega
  have h1l : 1 ≤ l.length := by omega
  clear hA hB hC hl
  go_enter Try.func11, Try.ntmps11
  go_wp2_with fail
  go_loopw [39] (fun iv wr => ∃ k : Nat, k ≤ l.length ∧ iv = .int .i64 k ∧ Hid (chkF [] l = chkF (l.take k) (l.drop k)) ∧ Hid (Below w.heap.size w wr)) (fun iv _ => l.length - (intOf iv).toNat)
  case atStart => exact ⟨0, Nat.zero_le _, rfl, Lib.hid (by simp), Below.refl _ _⟩
  case round =>
    obtain ⟨k, hk, rfl, hch, hb⟩ := hrel
    by_cases hkl : k < l.length
    · obtain ⟨b, o, x, kv, vw, hao, cbb, hx, xd0, xd1, xd2, xd3, hkv, hvv, hu⟩ := IsEs.at4 HL.out hkl
      subst hao
      obtain ⟨xko, xkc, rfl, -, -, -⟩ := hkv.out.form
      obtain ⟨xvo, xvc, rfl, -, -, -⟩ := hvv.out.form
      have HST := Lib.hid (hch.out.trans (chk_step hx.out))
      have p0 : (k : Int) < l.length := by omega
      have p1 := IntWalk.i64_in ((k : Int) + 1) (by omega)
      have x0 : wr.cell? ⟨b, o + k * 4, none⟩ = some (.slice xko x.1.length xkc) := (hb.out.cell (p := ⟨b, o + k * 4, none⟩) cbb).trans xd0
      have x1 : wr.cell? ⟨b, o + k * 4 + 1, none⟩ = some (.int .u64 x.2.1) := (hb.out.cell (p := ⟨b, o + k * 4 + 1, none⟩) cbb).trans xd1
      have x2 : wr.cell? ⟨b, o + k * 4 + 2, none⟩ = some (.bool x.2.2.1) := (hb.out.cell (p := ⟨b, o + k * 4 + 2, none⟩) cbb).trans xd2
      have x3 : wr.cell? ⟨b, o + k * 4 + 3, none⟩ = some (.slice xvo x.2.2.2.length xvc) := (hb.out.cell (p := ⟨b, o + k * 4 + 3, none⟩) cbb).trans xd3
      have GA : Hid (Below w.heap.size w (wr.alloc (.cells #[.slice xko x.1.length xkc, .int .u64 x.2.1, .bool x.2.2.1, .slice xvo x.2.2.2.length xvc] 46))) := Lib.hid (bel_alloc hb.out _)
      have HMY := Lib.hid (fits_any _ _ x (wr.alloc (.cells #[.slice xko x.1.length xkc, .int .u64 x.2.1, .bool x.2.2.1, .slice xvo x.2.2.2.length xvc] 46)) (hkv.out.below GA.out) (hvv.out.below GA.out))
      have HEB : Hid ((wr.alloc (.cells #[.slice xko x.1.length xkc, .int .u64 x.2.1, .bool x.2.2.1, .slice xvo x.2.2.2.length xvc] 46)).heap[wr.heap.size]? = some (.cells #[.slice xko x.1.length xkc, .int .u64 x.2.1, .bool x.2.2.1, .slice xvo x.2.2.2.length xvc] 46 (0, 0))) := Lib.hid (heap_alloc_new wr _)
      by_cases hm : mayB x = true
      · have HCE : Hid (chkE (l.take k) x = match (l.take k).getLast? with | none => 0 | some y => if 0 ≤ cmpE y x then 42 else 0) := Lib.hid (by unfold chkE; simp only [hm]; rfl)
        rw [hm] at HMY
        rcases Nat.eq_zero_or_pos k with hk0 | hk0
        · subst hk0
          have x00 : wr.cell? ⟨b, o, none⟩ = some (.slice xko x.1.length xkc) := by simpa using x0
          have x01 : wr.cell? ⟨b, o + 1, none⟩ = some (.int .u64 x.2.1) := by simpa using x1
          have x02 : wr.cell? ⟨b, o + 2, none⟩ = some (.bool x.2.2.1) := by simpa using x2
          have x03 : wr.cell? ⟨b, o + 3, none⟩ = some (.slice xvo x.2.2.2.length xvc) := by simpa using x3
          have p00 : (0 : Int) < l.length := by omega
          have HCE2 : Hid (chkE (l.take 0) x = 0) := Lib.hid (by rw [HCE.out]; rfl)
          have HN2 : Hid (chkF [] l = chkF (l.take (0 + 1)) (l.drop (0 + 1))) := Lib.hid (by rw [HST.out, HCE2.out]; simp)
          clear HCE x0 x1 x2 x3
          go_wp2_with fail
          refine HMY.out.mono ?_
          rintro e w2 ⟨rfl, hb2⟩
          have G2 : Hid (Below w.heap.size w w2) := Lib.hid (bel_call GA.out hb2)
          clear hb2
          go_wp2_with fail
          go_quiet (fail)
          go_wp2_with fail
          go_roundw
          case rel => exact ⟨0 + 1, by omega, by go_num, HN2, Lib.hid (below_drewN G2.out _)⟩
          case measure => simp [intOf] <;> omega
        · obtain ⟨k', rfl⟩ : ∃ k', k = k' + 1 := ⟨k - 1, by omega⟩
          obtain ⟨b', o', y, kv', vw', hao', cbb', hy, yd0, yd1, yd2, yd3, hkv', hvv', hu'⟩ := IsEs.at4 HL.out (k := k') (by omega)
          obtain ⟨hbb1, hoo1⟩ : b = b' ∧ o = o' := by
            have := hao'
            simp at this
            omega
          subst hbb1 hoo1
          obtain ⟨yko, ykc, rfl, -, -, -⟩ := hkv'.out.form
          obtain ⟨yvo, yvc, rfl, -, -, -⟩ := hvv'.out.form
          have p2 : (0 : Int) < ((k' + 1 : Nat) : Int) := by omega
          have p3 := IntWalk.i64_in (((k' + 1 : Nat) : Int) - 1) (by omega)
          have e1 : ((k' + 1 : Nat) : Int) - 1 = (k' : Int) := by omega
          go_wp2_with fail
          refine HMY.out.mono ?_
          rintro e w2 ⟨rfl, hb2⟩
          have G2 : Hid (Below w.heap.size w w2) := Lib.hid (bel_call GA.out hb2)
          have HE2 : Hid (w2.heap[wr.heap.size]? = some (.cells #[.slice xko x.1.length xkc, .int .u64 x.2.1, .bool x.2.2.1, .slice xvo x.2.2.2.length xvc] 46 (0, 0))) := Lib.hid ((hb2.block wr.heap.size (Array.getElem?_eq_some_iff.1 HEB.out).1).trans HEB.out)
          clear x0 x1 x2 x3 HEB
          generalize wr.heap.size = eb at HE2 ⊢
          have y0 : w2.cell? ⟨b, o + k' * 4, none⟩ = some (.slice yko y.1.length ykc) := (G2.out.cell (p := ⟨b, o + k' * 4, none⟩) cbb).trans yd0
          have y1 : w2.cell? ⟨b, o + k' * 4 + 1, none⟩ = some (.int .u64 y.2.1) := (G2.out.cell (p := ⟨b, o + k' * 4 + 1, none⟩) cbb).trans yd1
          have y2 : w2.cell? ⟨b, o + k' * 4 + 2, none⟩ = some (.bool y.2.2.1) := (G2.out.cell (p := ⟨b, o + k' * 4 + 2, none⟩) cbb).trans yd2
          have y3 : w2.cell? ⟨b, o + k' * 4 + 3, none⟩ = some (.slice yvo y.2.2.2.length yvc) := (G2.out.cell (p := ⟨b, o + k' * 4 + 3, none⟩) cbb).trans yd3
          have x0 : w2.cell? ⟨eb, 0, none⟩ = some (.slice xko x.1.length xkc) := (cell_of_row _ _ _ _ _ _ HE2.out).trans rfl
          have x1 : w2.cell? ⟨eb, 1, none⟩ = some (.int .u64 x.2.1) := (cell_of_row _ _ _ _ _ _ HE2.out).trans rfl
          have x2 : w2.cell? ⟨eb, 2, none⟩ = some (.bool x.2.2.1) := (cell_of_row _ _ _ _ _ _ HE2.out).trans rfl
          have x3 : w2.cell? ⟨eb, 3, none⟩ = some (.slice xvo x.2.2.2.length xvc) := (cell_of_row _ _ _ _ _ _ HE2.out).trans rfl
          clear hb2
          have hlast : (l.take (k' + 1)).getLast? = some y := by rw [take_snoc' hy.out]; simp
          have HCM := Lib.hid (order_any _ _ _ _ y x w2.drew (hkv'.out.below G2.out.drew) (hvv'.out.below G2.out.drew) (hkv.out.below G2.out.drew) (hvv.out.below G2.out.drew))
          have HCE2 : Hid (chkE (l.take (k' + 1)) x = if 0 ≤ cmpE y x then 42 else 0) := Lib.hid (by rw [HCE.out, hlast])
          clear hlast HCE
          have p4 : (0 : Int) ≤ (k' : Int) + 1 := by omega
          have p5 : (k' : Int) + 1 < l.length := by omega
          have p6 : (k' : Int) < l.length := by omega
          have p7 : (0 : Int) ≤ (k' : Int) := by omega
          have p8 := IntWalk.i64_in (k' : Int) (by omega)
          have p9 := IntWalk.i64_in ((k' : Int) + 1 - 1) (by omega)
          go_wp2_with fail
          go_region_held3 (fun w' => w'.cell? ⟨eb, 0, none⟩ = some (.slice xko x.1.length xkc) ∧ w'.cell? ⟨eb, 1, none⟩ = some (.int .u64 x.2.1) ∧ w'.cell? ⟨eb, 2, none⟩ = some (.bool x.2.2.1) ∧ w'.cell? ⟨eb, 3, none⟩ = some (.slice xvo x.2.2.2.length xvc) ∧ w'.cell? ⟨b, o + k' * 4, none⟩ = some (.slice yko y.1.length ykc) ∧ w'.cell? ⟨b, o + k' * 4 + 1, none⟩ = some (.int .u64 y.2.1) ∧ w'.cell? ⟨b, o + k' * 4 + 2, none⟩ = some (.bool y.2.2.1) ∧ w'.cell? ⟨b, o + k' * 4 + 3, none⟩ = some (.slice yvo y.2.2.2.length yvc)) (first | exact ⟨by assumption, by assumption, by assumption, by assumption, by assumption, by assumption, by assumption, by assumption⟩ | go_keep) ((go_at_call 33; refine HCM.out.mono ?_; rintro e w3 ⟨rfl, g1⟩; have G3 : Hid (Below w.heap.size w w3) := Lib.hid (bel_call G2.out.drew g1); have HE3 : Hid (w3.heap[eb]? = some (.cells #[.slice xko x.1.length xkc, .int .u64 x.2.1, .bool x.2.2.1, .slice xvo x.2.2.2.length xvc] 46 (0, 0))) := Lib.hid ((g1.block eb (Array.getElem?_eq_some_iff.1 HE2.out).1).trans HE2.out); clear g1; have y0 : w3.cell? ⟨b, o + k' * 4, none⟩ = some (.slice yko y.1.length ykc) := (G3.out.cell (p := ⟨b, o + k' * 4, none⟩) cbb).trans yd0; have y1 : w3.cell? ⟨b, o + k' * 4 + 1, none⟩ = some (.int .u64 y.2.1) := (G3.out.cell (p := ⟨b, o + k' * 4 + 1, none⟩) cbb).trans yd1; have y2 : w3.cell? ⟨b, o + k' * 4 + 2, none⟩ = some (.bool y.2.2.1) := (G3.out.cell (p := ⟨b, o + k' * 4 + 2, none⟩) cbb).trans yd2; have y3 : w3.cell? ⟨b, o + k' * 4 + 3, none⟩ = some (.slice yvo y.2.2.2.length yvc) := (G3.out.cell (p := ⟨b, o + k' * 4 + 3, none⟩) cbb).trans yd3; have x0 : w3.cell? ⟨eb, 0, none⟩ = some (.slice xko x.1.length xkc) := (cell_of_row _ _ _ _ _ _ HE3.out).trans rfl; have x1 : w3.cell? ⟨eb, 1, none⟩ = some (.int .u64 x.2.1) := (cell_of_row _ _ _ _ _ _ HE3.out).trans rfl; have x2 : w3.cell? ⟨eb, 2, none⟩ = some (.bool x.2.2.1) := (cell_of_row _ _ _ _ _ _ HE3.out).trans rfl; have x3 : w3.cell? ⟨eb, 3, none⟩ = some (.slice xvo x.2.2.2.length xvc) := (cell_of_row _ _ _ _ _ _ HE3.out).trans rfl))
          by_cases hcm : 0 ≤ cmpE y x
          · have HC1 : Hid (codeF l bb pk = 42) := Lib.hid (by rw [HC.out, HST.out, HCE2.out, if_pos hcm]; simp)
            all_goals (
              go_wp2_with fail
              refine bodyPost_ret (v := .tuple #[.slice none 0 0, .int .i64 42]) (by first | (simp [results, Try.results11, go_sem]; done) | (simp [results, Try.results11, go_sem]; go_simp)) rfl (buildP_no HC1.out (by decide) G3.out))
          · have HN2 : Hid (chkF [] l = chkF (l.take (k' + 1 + 1)) (l.drop (k' + 1 + 1))) := Lib.hid (by rw [HST.out, HCE2.out, if_neg hcm]; simp)
            all_goals (
              go_wp2_with fail
              go_roundw
              case rel => exact ⟨k' + 1 + 1, by omega, by go_num, HN2, G3⟩
              case measure => simp [intOf] <;> omega)
      · have hm' : mayB x = false := by simpa using hm
        have HCE : Hid (chkF [] l = 41) := Lib.hid (by
          have h1 : chkE (l.take k) x = 41 := by unfold chkE; simp only [hm', if_true]
          rw [HST.out, if_pos (by rw [h1]; decide), h1])
        rw [hm'] at HMY
        go_wp2_with fail
        refine HMY.out.mono ?_
        rintro e w2 ⟨rfl, hb2⟩
        have G2 : Hid (Below w.heap.size w w2) := Lib.hid (bel_call GA.out hb2)
        have HC1 : Hid (codeF l bb pk = 41) := Lib.hid (by rw [HC.out, HCE.out, if_pos (by decide)])
        go_wp2_with fail
        refine bodyPost_ret (v := .tuple #[.slice none 0 0, .int .i64 41]) (by first | (simp [results, Try.results11, go_sem]; done) | (simp [results, Try.results11, go_sem]; go_simp)) rfl (buildP_no HC1.out (by decide) G2.out)
    · have hkk : k = l.length := by omega
      subst hkk
      have p0 : ¬ ((l.length : Int) < (l.length : Int)) := by omega
      have HZ : Hid (chkF [] l = 0) := Lib.hid (by rw [hch.out, List.drop_length]; rfl)
      clear hch
      go_wp2_with fail
      obtain ⟨wo, hwo⟩ : ∃ wo, wo = wr := ⟨_, rfl⟩
      subst hwo
      have HM := Lib.hid (chk_may [] l HZ.out)
      have HC2 : Hid (codeF l bb pk = if 4194304 < valF l ∨ 2097152 < (idxF (blksF l bb)).length ∨ 4194304 < (tableF l (blksF l bb) bb.toNat pk.toNat).length then 43 else 0) := Lib.hid (by rw [HC.out, HZ.out, if_neg (by decide)])
      have HB0 : Hid (Bd w (wo.alloc (.cells #[.slice none 0 0, .slice none 0 0, .slice none 0 0, .int .i64 0, .int .i64 0, .slice none 0 0] 66)) wo.heap.size (.slice none 0 0) (.slice none 0 0) (.slice none 0 0) (.slice none 0 0) (.slice none 0 0) [] (partF bb (l.take 0)) (keysF (l.take 0))) := Lib.hid
        ⟨⟨heap_alloc_new wo _, hb.out.size, World.ownsRow_nil _ _ _ _, ownS_nil, World.ownsRow_nil _ _ _ _, Rng.nil, Rng.nil, fun W' _ => IsB.nil _, .inl rfl, .inl rfl, .inl rfl⟩, World.ownsRow_nil _ _ _ _, trivial, bel_alloc hb.out _⟩
      generalize wo.heap.size = wb at HB0 ⊢
      go_loopw [11, 66] (fun kv iv wr => ∃ k : Nat, k ≤ l.length ∧ iv = .int .i64 k ∧ ∃ ov bv iv' lv vs, Hid (Bd w wr wb ov bv iv' lv kv vs (partF bb (l.take k)) (keysF (l.take k)))) (fun _ iv _ => l.length - (intOf iv).toNat)
      case atStart => exact ⟨0, Nat.zero_le _, rfl, _, _, _, _, _, HB0⟩
      case round =>
        obtain ⟨k, hk, rfl, ov, bv, iv', lv, vs, hbd⟩ := hrel
        have hvl : vs.length ≤ 65536 := by
          have h1 := hbd.out.ka.len
          have h2 := keys_le (l.take k) []
          rw [List.length_take] at h2
          unfold keysF at h1
          simp only [List.length_nil] at h2
          omega
        obtain ⟨g1, g2, g3, g4, g5, g6⟩ := part_bounds bb (by omega) (l.take k) (fun x hx => HM.out x (List.mem_of_mem_take hx)) (by rw [List.length_take]; omega)
        by_cases hkl : k < l.length
        · obtain ⟨b, o, x, kvx, vwx, hao, cbb, hx, xd0, xd1, xd2, xd3, hkv, hvv, hu⟩ := IsEs.at4 HL.out hkl
          subst hao
          obtain ⟨xko, xkc, rfl, -, -, -⟩ := hkv.out.form
          obtain ⟨xvo, xvc, rfl, -, -, -⟩ := hvv.out.form
          have HMX := Lib.hid (HM.out x (List.mem_of_getElem? hx.out))
          have p0 : (k : Int) < l.length := by omega
          have p1 := IntWalk.i64_in ((k : Int) + 1) (by omega)
          have x0 : wr.cell? ⟨b, o + k * 4, none⟩ = some (.slice xko x.1.length xkc) := (hbd.out.bel.cell (p := ⟨b, o + k * 4, none⟩) cbb).trans xd0
          have x1 : wr.cell? ⟨b, o + k * 4 + 1, none⟩ = some (.int .u64 x.2.1) := (hbd.out.bel.cell (p := ⟨b, o + k * 4 + 1, none⟩) cbb).trans xd1
          have x2 : wr.cell? ⟨b, o + k * 4 + 2, none⟩ = some (.bool x.2.2.1) := (hbd.out.bel.cell (p := ⟨b, o + k * 4 + 2, none⟩) cbb).trans xd2
          have x3 : wr.cell? ⟨b, o + k * 4 + 3, none⟩ = some (.slice xvo x.2.2.2.length xvc) := (hbd.out.bel.cell (p := ⟨b, o + k * 4 + 3, none⟩) cbb).trans xd3
          have HA := Lib.hid (hbd.out.below ((Below.refl _ wr).alloc (Nat.le_refl _) (.cells #[.slice xko x.1.length xkc, .int .u64 x.2.1, .bool x.2.2.1, .slice xvo x.2.2.2.length xvc] 46)))
          have HEB : Hid ((wr.alloc (.cells #[.slice xko x.1.length xkc, .int .u64 x.2.1, .bool x.2.2.1, .slice xvo x.2.2.2.length xvc] 46)).heap[wr.heap.size]? = some (.cells #[.slice xko x.1.length xkc, .int .u64 x.2.1, .bool x.2.2.1, .slice xvo x.2.2.2.length xvc] 46 (0, 0))) := Lib.hid (heap_alloc_new wr _)
          have c0 := HA.out.bu.c0
          have HNL := Lib.hid (fun h => code_long HC2.out k h)
          obtain ⟨N, hN⟩ : ∃ N, (doneF (partF bb (l.take k)).1).1.length = N := ⟨_, rfl⟩
          obtain ⟨oo, oc, hov, -, -, -, -⟩ := own_form HA.out.bu.oo
          rw [hN] at hov HNL
          subst hov
          by_cases hlong : 4194304 < N
          · have q5 : (4194304 : Int) < (N : Int) := by omega
            have HC1 : Hid (codeF l bb pk = 43) := Lib.hid (HNL.out hlong)
            go_wp2_with fail
            refine bodyPost_ret (v := .tuple #[.slice none 0 0, .int .i64 43]) (by first | (simp [results, Try.results11, go_sem]; done) | (simp [results, Try.results11, go_sem]; go_simp)) rfl (buildP_no HC1.out (by decide) HA.out.bel)
          have q5 : ¬ (4194304 : Int) < (N : Int) := by omega
          have HAD := Lib.hid (add2 w.heap.size wb (.slice oo N oc) bv iv' lv (.slice xko x.1.length xkc) (.slice xvo x.2.2.2.length xvc) (partF bb (l.take k)) x bb (wr.alloc (.cells #[.slice xko x.1.length xkc, .int .u64 x.2.1, .bool x.2.2.1, .slice xvo x.2.2.2.length xvc] 46)) HA.out.bu (fun W' h => hkv.out.below (HA.out.bel.trans h)) (fun W' h => hvv.out.below (HA.out.bel.trans h)) HMX.out (by omega) g1 (by omega) g4 g3 g2 hbb)
          have HPS : Hid (partF bb (l.take (k + 1)) = stepP bb (partF bb (l.take k)) x) := Lib.hid (by rw [take_snoc' hx.out, partF_snoc])
          have HKS : Hid (keysF (l.take (k + 1)) = keyStep (keysF (l.take k)) x) := Lib.hid (by rw [take_snoc' hx.out, keysF_snoc])
          have HKX : Hid (IsB w (.slice xko x.1.length xkc) x.1) := hkv
          clear g1 g2 g3 g4 g5 g6 hN HNL
          go_wp2_with fail
          refine HAD.out.mono ?_
          intro e w2 had
          have hB2 : Hid (Below wr.heap.size wr w2 ∨ True) := Lib.hid (.inr trivial)
          have HE2 : Hid (w2.heap[wr.heap.size]? = some (.cells #[.slice xko x.1.length xkc, .int .u64 x.2.1, .bool x.2.2.1, .slice xvo x.2.2.2.length xvc] 46 (0, 0))) := Lib.hid (by
            refine (had.2.2.block _ (Array.getElem?_eq_some_iff.1 HEB.out).1 (fun h => ?_)).trans HEB.out
            rcases h with h | h | h
            · exact absurd (types_apart HEB.out (h ▸ HA.out.bu.box)) (by decide)
            · obtain ⟨-, -, c2, k2⟩ := own_typed HA.out.bu.oo _ h
              exact absurd (types_apart HEB.out k2) (by decide)
            · obtain ⟨-, -, c2, k2⟩ := own_typed HA.out.bu.oi _ h
              exact absurd (types_apart HEB.out k2) (by decide))
          obtain ⟨rfl, ov2, bv2, iv2, lv2, h2⟩ := HA.out.add had
          have HB2 := Lib.hid h2
          clear had h2 HAD c0 x0 x1 x2 x3 HEB hB2
          generalize wr.heap.size = eb at HE2 ⊢
          have e0 : w2.cell? ⟨eb, 0, none⟩ = some (.slice xko x.1.length xkc) := (cell_of_row _ _ _ _ _ _ HE2.out).trans rfl
          rcases nil_or_snoc vs with hv0 | ⟨vs', u, hv0⟩
          · subst hv0
            have HK0 : Hid (keysF (l.take (k + 1)) = keysF (l.take k) ++ [x.1]) := Lib.hid (by
              have h9 : keysF (l.take k) = [] := List.eq_nil_of_length_eq_zero (HB2.out.ka.len).symm
              rw [HKS.out]
              unfold keyStep
              rw [h9]
              rfl)
            obtain ⟨k9o, k9c, rfl, -, -, -, -⟩ := own_form HB2.out.kr
            go_wp2_with fail
            go_quiet (fail)
            have HBK := Lib.hid (HB2.out.below (below_drewN (Below.refl _ w2) nq))
            have HKR : Hid ((w2.drewN nq).ownsRow w.heap.size 25 1 (.slice k9o 0 k9c) 0 []) := Lib.hid HBK.out.kr
            have HVN : Hid (([] : List Value).length = 0) := Lib.hid rfl
            go_wp2_with (at_builtin; refine wpList_append_one' (w := w2.drewN nq) (base := w.heap.size) (n := 0) (.tmp 95) (.tmp 98) _ rfl rfl i0 _ 24 Try.underlying67 HI.out HZ0.out HZ1.out HZ2.out rfl (.slice xko x.1.length xkc) rfl rfl HKR.out rfl (by omega) (by omega) HBK.out.bel.size ?_; intro v9 w9 ho9 hg9; have O9 : Hid (w9.ownsRow w.heap.size 25 1 v9 (0 + 1) (([] : List Value) ++ [Value.slice xko x.1.length xkc])) := Lib.hid ho9; obtain ⟨v9o, v9c, rfl, -, -, -, -⟩ := own_form O9.out; have H9 : Hid (∀ n9, n9 = 0 + 1 → Bd w w9 wb ov2 bv2 iv2 lv2 (.slice v9o n9 v9c) (([] : List Value) ++ [Value.slice xko x.1.length xkc]) (partF bb (l.take (k + 1))) (keysF (l.take (k + 1)))) := Lib.hid (by rintro n9 rfl; rw [HK0.out, HPS.out]; exact HBK.out.key (by rw [HVN.out]; exact O9.out) (Chg.of_grown hg9 (fun b _ e => e)) HKX.out); clear ho9 hg9)
            go_roundw
            case rel => exact ⟨k + 1, by omega, by go_num, ov2, bv2, iv2, lv2, _, Lib.hid (H9.out _ (by first | rfl | omega))⟩
            case measure => simp [intOf] <;> omega
          · subst hv0
            obtain ⟨m, hm⟩ : ∃ m, vs'.length = m := ⟨_, rfl⟩
            have HVN : Hid ((vs' ++ [u]).length = m + 1) := Lib.hid (by rw [List.length_append, hm]; rfl)
            obtain ⟨K', a, HKE, hua⟩ : ∃ K' a, Hid (keysF (l.take k) = K' ++ [a]) ∧ Hid (IsB w u a) := by
              have h1 := HB2.out.ka
              have h2 := h1.len
              rcases nil_or_snoc (keysF (l.take k)) with h3 | ⟨K', a, h3⟩
              · rw [h3, HVN.out] at h2
                cases h2
              · rw [h3] at h1 h2
                obtain ⟨v, h4, h5⟩ := h1.at_ K'.length a (by simp)
                have h6 : vs'.length = K'.length := by simpa using h2
                rw [← h6] at h4
                simp only [List.getElem?_concat_length, Option.some.injEq] at h4
                subst h4
                exact ⟨K', a, h3, h5⟩
            obtain ⟨uo, uc, rfl, -, -, -⟩ := hua.out.form
            have hkr := HB2.out.kr
            rw [HVN.out] at hkr
            obtain ⟨k9o, k9c, rfl, -, -, -, -⟩ := own_form hkr
            obtain ⟨g, rfl, -, -, cg⟩ := own_cell hkr (j := m) (u := .slice uo a.length uc) (by rw [← hm]; simp)
            have HKR2 := Lib.hid hkr
            have HEQ := Lib.hid (bytesEqual_any _ _ a x.1 w2.drew (hua.out.below HB2.out.bel.drew) (HKX.out.below HB2.out.bel.drew))
            have q6 : ((m : Int) + 1 == 0) = false := beq_eq_false_iff_ne.2 (by omega)
            have q7 := IntWalk.i64_in ((m : Int) + 1 - 1) (by rw [HVN.out] at hvl; omega)
            have q8 : (m : Int) + 1 - 1 = (m : Int) := by omega
            have q9 : (0 : Int) ≤ (m : Int) := by omega
            have q10 : (m : Int) < (m : Int) + 1 := by omega
            have q11 := IntWalk.i64_in (m : Int) (by rw [HVN.out] at hvl; omega)
            have hvm : m ≤ 65536 := by rw [HVN.out] at hvl; omega
            clear hm hkr hvl
            by_cases he : a = x.1
            · have HK0 : Hid (keysF (l.take (k + 1)) = keysF (l.take k)) := Lib.hid (by rw [HKS.out]; unfold keyStep; rw [HKE.out, if_pos (by simp [he])])
              rw [decide_eq_true he] at HEQ
              clear he
              go_wp2_with fail
              go_region_held3 (fun w' => w'.cell? ⟨g, m, none⟩ = some (.slice uo a.length uc) ∧ w'.cell? ⟨eb, 0, none⟩ = some (.slice xko x.1.length xkc)) (first | exact ⟨by assumption, by assumption⟩ | go_keep) ((go_at_call 35; refine HEQ.out.mono ?_; rintro e w3 ⟨rfl, rfl⟩))
              go_wp2_with fail
              go_roundw
              case rel => exact ⟨k + 1, by omega, by go_num, ov2, bv2, iv2, lv2, _, Lib.hid (by rw [HK0.out, HPS.out]; exact HB2.out.below (Below.refl _ w2).drew)⟩
              case measure => simp [intOf] <;> omega
            · have HK0 : Hid (keysF (l.take (k + 1)) = keysF (l.take k) ++ [x.1]) := Lib.hid (by rw [HKS.out]; unfold keyStep; rw [HKE.out, if_neg (by simp [he])])
              rw [decide_eq_false he] at HEQ
              clear he
              go_wp2_with fail
              go_region_held3 (fun w' => w'.cell? ⟨g, m, none⟩ = some (.slice uo a.length uc) ∧ w'.cell? ⟨eb, 0, none⟩ = some (.slice xko x.1.length xkc)) (first | exact ⟨by assumption, by assumption⟩ | go_keep) ((go_at_call 35; refine HEQ.out.mono ?_; rintro e w3 ⟨rfl, rfl⟩))
              have HBK := Lib.hid (HB2.out.below (Below.refl _ w2).drew)
              have HKR : Hid (w2.drew.ownsRow w.heap.size 25 1 (.slice (some ⟨g, 0, none⟩) (m + 1) k9c) (m + 1) (vs' ++ [Value.slice uo a.length uc])) := Lib.hid (own_below HKR2.out (Below.refl _ w2).drew)
              go_wp2_with (at_builtin; refine wpList_append_one' (w := w2.drew) (base := w.heap.size) (n := (m + 1)) (.tmp 95) (.tmp 98) _ rfl rfl i0 _ 24 Try.underlying67 HI.out HZ0.out HZ1.out HZ2.out rfl (.slice xko x.1.length xkc) rfl rfl HKR.out rfl (by omega) (by omega) HBK.out.bel.size ?_; intro v9 w9 ho9 hg9; have O9 : Hid (w9.ownsRow w.heap.size 25 1 v9 ((m + 1) + 1) ((vs' ++ [Value.slice uo a.length uc]) ++ [Value.slice xko x.1.length xkc])) := Lib.hid ho9; obtain ⟨v9o, v9c, rfl, -, -, -, -⟩ := own_form O9.out; have H9 : Hid (∀ n9, n9 = (m + 1) + 1 → Bd w w9 wb ov2 bv2 iv2 lv2 (.slice v9o n9 v9c) ((vs' ++ [Value.slice uo a.length uc]) ++ [Value.slice xko x.1.length xkc]) (partF bb (l.take (k + 1))) (keysF (l.take (k + 1)))) := Lib.hid (by rintro n9 rfl; rw [HK0.out, HPS.out]; exact HBK.out.key (by rw [HVN.out]; exact O9.out) (Chg.of_grown hg9 (fun b _ e => e)) HKX.out); clear ho9 hg9)
              go_roundw
              case rel => exact ⟨k + 1, by omega, by go_num, ov2, bv2, iv2, lv2, _, Lib.hid (H9.out _ (by first | rfl | omega))⟩
              case measure => simp [intOf] <;> omega
        · have hkk : k = l.length := by omega
          subst hkk
          rw [List.take_length] at hbd g1 g2 g3 g4 g5 g6
          have p0 : ¬ ((l.length : Int) < (l.length : Int)) := by omega
          obtain ⟨bn, rfl⟩ := Int.eq_ofNat_of_zero_le (show 0 ≤ bb by omega)
          obtain ⟨pn, rfl⟩ := Int.eq_ofNat_of_zero_le (show 0 ≤ pk by omega)
          have hbk := blks_bounds bn (by omega) l HM.out hll
          have hde : doneF (blksF l bn) = blkF (doneF (partF bn l).1) (partF bn l).2 := doneF_snoc _ _
          have hle : (blksF l bn).length = (partF bn l).1.length + 1 := by unfold blksF; rw [List.length_append]; rfl
          have HCL : Hid (Calls Try.prog 36 #[.pointer (some ⟨wb, 0, none⟩)] wr (BuP w.heap.size wb ov iv' (doneF (blksF l bn)).1 [] (doneF (blksF l bn)).2 0 (blksF l bn).length (bodyF (partF bn l).2).2 wr)) := Lib.hid (by
            have h9 := close_any w.heap.size wb ov bv iv' lv _ _ _ _ _ _ wr hbd.out.bu (by omega) g1 (by omega) g4 g3 g2
            rw [hde, hle]
            exact h9)
          have HCE : Hid (codeF l bn pn = if 2097152 < (idxF (blksF l bn)).length ∨ 4194304 < (tableF l (blksF l bn) bn pn).length then 43 else 0) := Lib.hid (code_end HC2.out)
          have HKL : Hid ((keysF l).length ≤ 65536) := Lib.hid (by have := keys_le l []; simp only [List.length_nil] at this; unfold keysF; omega)
          have HBN := Lib.hid hbk
          clear hde hle hbk g1 g2 g3 g4 g5 g6
          go_wp2_with fail
          refine HCL.out.mono ?_
          intro e w2 hcl
          have hkb := hbd.out.keysB hcl.2.2
          have hbl2 : Below w.heap.size w w2 := hbd.out.bel.trans (hbd.out.bu.chgB hcl.2.2)
          obtain ⟨rfl, ⟨ov2, bv2, iv2, lv2, h2, -⟩, -⟩ := hcl
          have HB2 := Lib.hid hbl2
          have HEN := Lib.hid (end_any w.heap.size wb ov2 bv2 iv2 lv2 _ _ _ _ _ (keysF l) _ _ l.length bn pn w2 h2 (isBB_own hkb (hbd.out.ka.below hbl2)) HKL.out hll (by omega) (by omega) (by have := HBN.out; omega) (by have := HBN.out; omega) HBN.out.2.2.2 (by have := HBN.out; omega))
          obtain ⟨k9o, k9c, rfl, -, -, -, -⟩ := own_form hkb
          clear h2 hkb hbl2 HCL
          go_wp2_with fail
          refine HEN.out.mono ?_
          unfold EndP
          rintro e w3 ⟨v, rfl, hv, hb3⟩
          have h8 : OwnS w3 w.heap.size 5 v (if 2097152 < (idxF (blksF l bn)).length ∨ 4194304 < (tableF l (blksF l bn) bn pn).length then [] else tableF l (blksF l bn) bn pn) := hv
          have HV : Hid (OwnS w3 w.heap.size 5 v (tabF l bn pn)) := Lib.hid (by
            unfold tabF
            rw [HCE.out]
            by_cases hcd : 2097152 < (idxF (blksF l bn)).length ∨ 4194304 < (tableF l (blksF l bn) bn pn).length
            · rw [if_pos hcd] at h8
              rw [if_pos hcd, if_neg (by decide)]
              exact h8
            · rw [if_neg hcd] at h8
              rw [if_neg hcd, if_pos rfl]
              exact h8)
          obtain ⟨c, hc⟩ : ∃ c : Int, (if 2097152 < (numN (blksF l bn).length ++ (doneF (blksF l bn)).2).length ∨ 4194304 < (tabE (doneF (blksF l bn)).1 (doneF (blksF l bn)).2 (keysF l) (blksF l bn).length l.length bn pn).length then (43 : Int) else 0) = c := ⟨_, rfl⟩
          have HCD : Hid (codeF l bn pn = c) := Lib.hid (by rw [HCE.out, ← hc]; rfl)
          rw [hc]
          have G3 : Hid (Below w.heap.size w w3) := Lib.hid (HB2.out.trans hb3)
          clear hv h8 hb3 hc HEN
          obtain ⟨v3o, v3c, rfl, -, -, -, -⟩ := HV.out.form
          generalize hn3 : (tabF l bn pn).length = n3 at HV ⊢
          clear hn3
          go_wp2_with fail
          refine bodyPost_ret (v := .tuple #[.slice v3o n3 v3c, .int .i64 c]) (by first | (simp [results, Try.results11, go_sem]; done) | (simp [results, Try.results11, go_sem]; go_simp)) rfl ⟨_, by rw [HCD.out], HV.out, G3.out⟩
end Ss
end Go.Proofs.Ytmojbamloanleaa
