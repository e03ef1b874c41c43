/- sstable: the reference's Build (walk). -/
import Derived.Test.YtmojbamloanleaaSs10
set_option linter.unusedVariables false
set_option linter.unusedSimpArgs false
namespace Go.Proofs.Ytmojbamloanleaa
open Go.RowKit
namespace Ss
open Mt Codec
/-- the first entry that may not be, or that does not stand behind the one before it -/
def chkE : List En → En → Int
  | p, x => if mayB x = false then 41 else match p.getLast? with
    | none => 0
    | some y => if 0 ≤ cmpE y x then 42 else 0
def chkF : List En → List En → Int
  | _, [] => 0
  | p, x :: r => if chkE p x ≠ 0 then chkE p x else chkF (p ++ [x]) r
theorem chk_step {l : List En} {k : Nat} {x : En} (h : l[k]? = some x) : chkF (l.take k) (l.drop k) = if chkE (l.take k) x ≠ 0 then chkE (l.take k) x else chkF (l.take (k + 1)) (l.drop (k + 1)) := by
  have h1 : l.drop k = x :: l.drop (k + 1) := by
    obtain ⟨hk, rfl⟩ := List.getElem?_eq_some_iff.1 h
    exact (List.drop_eq_getElem_cons hk)
  rw [h1, take_snoc' h]
  rfl
theorem chk_may : ∀ (p l : List En), chkF p l = 0 → ∀ x ∈ l, mayB x = true
  | _, [], _ => fun x h => by cases h
  | p, y :: r, h => fun x hx => by
    unfold chkF at h
    split at h
    · rename_i h1
      exact absurd h h1
    · rename_i h1
      rcases List.mem_cons.1 hx with rfl | h2
      · rcases hm : mayB x with _ | _
        · exact absurd (by unfold chkE; simp only [hm, if_true]; decide) h1
        · rfl
      · exact chk_may (p ++ [y]) r h x h2
def valF (l : List En) : Nat := (l.map fun e => e.2.2.2.length).sum
theorem valF_snoc (l : List En) (x : En) : valF (l ++ [x]) = valF l + x.2.2.2.length := by simp [valF]
def blksF (l : List En) (bb : Int) : List (List En) := (partF bb l).1 ++ [(partF bb l).2]
def codeF (l : List En) (bb pk : Int) : Int :=
  if bb < 64 ∨ 65536 < bb ∨ pk < 1 ∨ 30 < pk then 1
  else if l.length < 1 ∨ 65536 < l.length then 40
  else if chkF [] l ≠ 0 then chkF [] l
  else if 4194304 < valF l ∨ 2097152 < (idxF (blksF l bb)).length ∨ 4194304 < (tableF l (blksF l bb) bb.toNat pk.toNat).length then 43
  else 0
def tabF (l : List En) (bb pk : Int) : List Int := if codeF l bb pk = 0 then tableF l (blksF l bb) bb.toNat pk.toNat else []
def BuildP (l : List En) (bb pk : Int) (w : World) (e : Ending) (w' : World) : Prop :=
  ∃ v, e = .returned (.tuple #[v, .int .i64 (codeF l bb pk)]) ∧ OwnS w' w.heap.size 5 v (tabF l bb pk) ∧ Below w.heap.size w w'
theorem buildP_no {l : List En} {bb pk c : Int} {w w' : World} (hc : codeF l bb pk = c) (h0 : c ≠ 0) (hb : Below w.heap.size w w') : BuildP l bb pk w (.returned (.tuple #[.slice none 0 0, .int .i64 c])) w' :=
  ⟨_, by rw [hc], by unfold tabF; rw [hc, if_neg h0]; exact OwnS.of_own (n := 0) (l := []) (World.ownsRow_nil _ _ _ _) Rng.nil, hb⟩
set_option maxRecDepth 100000 in
set_option maxHeartbeats 8000000 in
theorem rbuild_any (lv : Value) (l : List En) (bb pk : Int) (w : World) (hl : IsEs w lv l) (hbb : I64 bb) (hpk : I64 pk) :
    Calls Try.prog 10 #[lv, .int .i64 bb, .int .i64 pk] w (BuildP l bb pk w) := by
  obtain ⟨lo, lc, rfl, -, -, hlz⟩ := hl.form
  have HL := Lib.hid hl
  by_cases hA : bb < 64 ∨ 65536 < bb ∨ pk < 1 ∨ 30 < pk
  · have HC : Hid (codeF l bb pk = 1) := Lib.hid (by unfold codeF; rw [if_pos hA])
    have h1 : (decide (bb < 64) || decide (65536 < bb) || decide (pk < 1) || decide (30 < pk)) = true := by simpa [or_assoc] using hA
    clear hl hA
    rcases Int.lt_or_le bb 64 with q1 | q1
    · go_enter Try.func10, Try.ntmps10
      go_wp2_with fail
      refine bodyPost_ret (v := .tuple #[.slice none 0 0, .int .i64 1]) (by first | (simp [results, Try.results10, go_sem]; done) | (simp [results, Try.results10, go_sem]; go_simp)) rfl (buildP_no HC.out (by decide) (by repeat' (first | (with_reducible exact Below.refl _ _) | (with_reducible assumption) | (with_reducible refine Below.drew ?_) | (with_reducible refine below_drewN ?_ _) | (with_reducible refine bel_alloc ?_ _) | (with_reducible refine Below.setCell ?_ ?_ _) | (with_reducible refine bel_call ?_ (by assumption)) | (simp <;> omega))))
    rcases Int.lt_or_le 65536 bb with q2 | q2
    · go_enter Try.func10, Try.ntmps10
      go_wp2_with fail
      refine bodyPost_ret (v := .tuple #[.slice none 0 0, .int .i64 1]) (by first | (simp [results, Try.results10, go_sem]; done) | (simp [results, Try.results10, go_sem]; go_simp)) rfl (buildP_no HC.out (by decide) (by repeat' (first | (with_reducible exact Below.refl _ _) | (with_reducible assumption) | (with_reducible refine Below.drew ?_) | (with_reducible refine below_drewN ?_ _) | (with_reducible refine bel_alloc ?_ _) | (with_reducible refine Below.setCell ?_ ?_ _) | (with_reducible refine bel_call ?_ (by assumption)) | (simp <;> omega))))
    rcases Int.lt_or_le pk 1 with q3 | q3
    · go_enter Try.func10, Try.ntmps10
      go_wp2_with fail
      refine bodyPost_ret (v := .tuple #[.slice none 0 0, .int .i64 1]) (by first | (simp [results, Try.results10, go_sem]; done) | (simp [results, Try.results10, go_sem]; go_simp)) rfl (buildP_no HC.out (by decide) (by repeat' (first | (with_reducible exact Below.refl _ _) | (with_reducible assumption) | (with_reducible refine Below.drew ?_) | (with_reducible refine below_drewN ?_ _) | (with_reducible refine bel_alloc ?_ _) | (with_reducible refine Below.setCell ?_ ?_ _) | (with_reducible refine bel_call ?_ (by assumption)) | (simp <;> omega))))
    have q4 : 30 < pk := by simp at h1; omega
    go_enter Try.func10, Try.ntmps10
    go_wp2_with fail
    refine bodyPost_ret (v := .tuple #[.slice none 0 0, .int .i64 1]) (by first | (simp [results, Try.results10, go_sem]; done) | (simp [results, Try.results10, go_sem]; go_simp)) rfl (buildP_no HC.out (by decide) (by repeat' (first | (with_reducible exact Below.refl _ _) | (with_reducible assumption) | (with_reducible refine Below.drew ?_) | (with_reducible refine below_drewN ?_ _) | (with_reducible refine bel_alloc ?_ _) | (with_reducible refine Below.setCell ?_ ?_ _) | (with_reducible refine bel_call ?_ (by assumption)) | (simp <;> omega))))
  have hA' := hA
  rw [not_or, not_or, not_or] at hA'
  obtain ⟨q1, q2, q3, q4⟩ := hA'
  by_cases hB : l.length < 1 ∨ 65536 < l.length
  · have HC : Hid (codeF l bb pk = 40) := Lib.hid (by unfold codeF; rw [if_neg hA, if_pos hB])
    clear hA
    by_cases r1 : l.length < 1
    · have r2 : (l.length : Int) < 1 := by omega
      clear hB hl
      go_enter Try.func10, Try.ntmps10
      go_wp2_with fail
      refine bodyPost_ret (v := .tuple #[.slice none 0 0, .int .i64 40]) (by first | (simp [results, Try.results10, go_sem]; done) | (simp [results, Try.results10, go_sem]; go_simp)) rfl (buildP_no HC.out (by decide) (by repeat' (first | (with_reducible exact Below.refl _ _) | (with_reducible assumption) | (with_reducible refine Below.drew ?_) | (with_reducible refine below_drewN ?_ _) | (with_reducible refine bel_alloc ?_ _) | (with_reducible refine Below.setCell ?_ ?_ _) | (with_reducible refine bel_call ?_ (by assumption)) | (simp <;> omega))))
    have r2 : ¬ (l.length : Int) < 1 := by omega
    have r3 : (65536 : Int) < l.length := by omega
    clear hB hl
    go_enter Try.func10, Try.ntmps10
    go_wp2_with fail
    refine bodyPost_ret (v := .tuple #[.slice none 0 0, .int .i64 40]) (by first | (simp [results, Try.results10, go_sem]; done) | (simp [results, Try.results10, go_sem]; go_simp)) rfl (buildP_no HC.out (by decide) (by repeat' (first | (with_reducible exact Below.refl _ _) | (with_reducible assumption) | (with_reducible refine Below.drew ?_) | (with_reducible refine below_drewN ?_ _) | (with_reducible refine bel_alloc ?_ _) | (with_reducible refine Below.setCell ?_ ?_ _) | (with_reducible refine bel_call ?_ (by assumption)) | (simp <;> omega))))
  have r2 : ¬ (l.length : Int) < 1 := by omega
  have r3 : ¬ (65536 : Int) < l.length := by omega
  have hC : codeF l bb pk = if chkF [] l ≠ 0 then chkF [] l
    else if 4194304 < valF l ∨ 2097152 < (idxF (blksF l bb)).length ∨ 4194304 < (tableF l (blksF l bb) bb.toNat pk.toNat).length then 43 else 0 := by
    unfold codeF
    rw [if_neg hA, if_neg hB]
  have HC := Lib.hid hC
  have hll : l.length ≤ 65536 := by omega
  have h1l : 1 ≤ l.length := by omega
  clear hA hB hC hl
  go_enter Try.func10, Try.ntmps10
  go_wp2_with fail
  go_loopw [8, 9, 10, 11] (fun nv iv _ _ wr => ∃ k : Nat, k ≤ l.length ∧ iv = .int .i64 k ∧ ∃ vm : Int, nv = .int .i64 vm ∧ 0 ≤ vm ∧ vm ≤ 16777216 ∧ Hid (vm = ((min (valF (l.take k)) 16777216 : Nat) : Int)) ∧ Hid (chkF [] l = chkF (l.take k) (l.drop k)) ∧ Hid (Below w.heap.size w wr)) (fun _ iv _ _ _ => l.length - (intOf iv).toNat)
  case atStart => exact ⟨0, Nat.zero_le _, rfl, 0, rfl, by omega, by omega, Lib.hid (by simp [valF]), Lib.hid (by simp), Below.refl _ _⟩
  case round =>
    obtain ⟨k, hk, rfl, vm, rfl, hv0, hv1, hvm, hch, hb⟩ := hrel
    by_cases hkl : k < l.length
    · obtain ⟨b, o, x, kv, vw, hao, cbb, hx, xd0, xd1, xd2, xd3, hkv, hvv, hu⟩ := IsEs.at4 HL.out hkl
      subst hao
      obtain ⟨xko, xkc, rfl, -, -, -⟩ := hkv.out.form
      obtain ⟨xvo, xvc, rfl, -, -, -⟩ := hvv.out.form
      have HST := Lib.hid (hch.out.trans (chk_step hx.out))
      have p0 : (k : Int) < l.length := by omega
      have p1 := IntWalk.i64_in ((k : Int) + 1) (by omega)
      have x0 : wr.cell? ⟨b, o + k * 4, none⟩ = some (.slice xko x.1.length xkc) := (hb.out.cell (p := ⟨b, o + k * 4, none⟩) cbb).trans xd0
      have x1 : wr.cell? ⟨b, o + k * 4 + 1, none⟩ = some (.int .u64 x.2.1) := (hb.out.cell (p := ⟨b, o + k * 4 + 1, none⟩) cbb).trans xd1
      have x2 : wr.cell? ⟨b, o + k * 4 + 2, none⟩ = some (.bool x.2.2.1) := (hb.out.cell (p := ⟨b, o + k * 4 + 2, none⟩) cbb).trans xd2
      have x3 : wr.cell? ⟨b, o + k * 4 + 3, none⟩ = some (.slice xvo x.2.2.2.length xvc) := (hb.out.cell (p := ⟨b, o + k * 4 + 3, none⟩) cbb).trans xd3
      have HMY := Lib.hid (may_any _ _ x wr (hkv.out.below hb.out) (hvv.out.below hb.out))
      by_cases hm : mayB x = true
      · have HCE : Hid (chkE (l.take k) x = match (l.take k).getLast? with | none => 0 | some y => if 0 ≤ cmpE y x then 42 else 0) := Lib.hid (by unfold chkE; simp only [hm]; rfl)
        rw [hm] at HMY
        rcases Nat.eq_zero_or_pos k with hk0 | hk0
        · have p2 : ¬ ((0 : Int) < (k : Int)) := by omega
          have HCE2 : Hid (chkE (l.take k) x = 0) := Lib.hid (by rw [HCE.out, show l.take k = [] by rw [hk0]; rfl]; rfl)
          have HN2 : Hid (chkF [] l = chkF (l.take (k + 1)) (l.drop (k + 1))) := Lib.hid (by rw [HST.out, HCE2.out]; simp)
          clear HCE hk0
          go_wp2_with fail
          refine HMY.out.mono ?_
          rintro e w2 ⟨rfl, hb2⟩
          have G3 : Hid (Below w.heap.size w w2) := Lib.hid (bel_call hb.out hb2)
          have x3 : w2.cell? ⟨b, o + k * 4 + 3, none⟩ = some (.slice xvo x.2.2.2.length xvc) := (G3.out.cell (p := ⟨b, o + k * 4 + 3, none⟩) cbb).trans xd3
          clear hb2
          have hxv : x.2.2.2.length ≤ 65536 := by
            have := hm
            unfold mayB at this
            simp only [Bool.and_eq_true, decide_eq_true_eq] at this
            omega
          have p10 := IntWalk.i64_in (vm + (x.2.2.2.length : Int)) (by omega)
          have HVS : Hid (valF (l.take (k + 1)) = valF (l.take (k)) + x.2.2.2.length) := Lib.hid (by rw [take_snoc' hx.out, valF_snoc])
          by_cases hmn : 16777216 < vm + (x.2.2.2.length : Int)
          · have HV2 : Hid ((16777216 : Int) = ((min (valF (l.take (k + 1))) 16777216 : Nat) : Int)) := Lib.hid (by have := hvm.out; rw [HVS.out]; omega)
            all_goals (
              go_wp2_with fail
              go_roundw
              case rel => exact ⟨k + 1, by omega, by go_num, 16777216, rfl, by omega, by omega, HV2, HN2, G3.out⟩
              case measure => simp [intOf] <;> omega)
          · have hmn' : vm + (x.2.2.2.length : Int) ≤ 16777216 := by omega
            have HV2 : Hid (vm + (x.2.2.2.length : Int) = ((min (valF (l.take (k + 1))) 16777216 : Nat) : Int)) := Lib.hid (by have := hvm.out; rw [HVS.out]; omega)
            all_goals (
              go_wp2_with fail
              go_roundw
              case rel => exact ⟨k + 1, by omega, by go_num, _, rfl, by omega, by omega, HV2, HN2, G3.out⟩
              case measure => simp [intOf] <;> omega)
        · obtain ⟨k', rfl⟩ : ∃ k', k = k' + 1 := ⟨k - 1, by omega⟩
          obtain ⟨b', o', y, kv', vw', hao', cbb', hy, yd0, yd1, yd2, yd3, hkv', hvv', hu'⟩ := IsEs.at4 HL.out (k := k') (by omega)
          obtain ⟨hbb1, hoo1⟩ : b = b' ∧ o = o' := by
            have := hao'
            simp at this
            omega
          subst hbb1 hoo1
          obtain ⟨yko, ykc, rfl, -, -, -⟩ := hkv'.out.form
          obtain ⟨yvo, yvc, rfl, -, -, -⟩ := hvv'.out.form
          have p2 : (0 : Int) < ((k' + 1 : Nat) : Int) := by omega
          have p3 := IntWalk.i64_in (((k' + 1 : Nat) : Int) - 1) (by omega)
          have e1 : ((k' + 1 : Nat) : Int) - 1 = (k' : Int) := by omega
          go_wp2_with fail
          refine HMY.out.mono ?_
          rintro e w2 ⟨rfl, hb2⟩
          have G2 : Hid (Below w.heap.size w w2) := Lib.hid (bel_call hb.out hb2)
          have x0 : w2.cell? ⟨b, o + (k' + 1) * 4, none⟩ = some (.slice xko x.1.length xkc) := (G2.out.cell (p := ⟨b, o + (k' + 1) * 4, none⟩) cbb).trans xd0
          have x1 : w2.cell? ⟨b, o + (k' + 1) * 4 + 1, none⟩ = some (.int .u64 x.2.1) := (G2.out.cell (p := ⟨b, o + (k' + 1) * 4 + 1, none⟩) cbb).trans xd1
          have x2 : w2.cell? ⟨b, o + (k' + 1) * 4 + 2, none⟩ = some (.bool x.2.2.1) := (G2.out.cell (p := ⟨b, o + (k' + 1) * 4 + 2, none⟩) cbb).trans xd2
          have x3 : w2.cell? ⟨b, o + (k' + 1) * 4 + 3, none⟩ = some (.slice xvo x.2.2.2.length xvc) := (G2.out.cell (p := ⟨b, o + (k' + 1) * 4 + 3, none⟩) cbb).trans xd3
          have y0 : w2.cell? ⟨b, o + k' * 4, none⟩ = some (.slice yko y.1.length ykc) := (G2.out.cell (p := ⟨b, o + k' * 4, none⟩) cbb).trans yd0
          have y1 : w2.cell? ⟨b, o + k' * 4 + 1, none⟩ = some (.int .u64 y.2.1) := (G2.out.cell (p := ⟨b, o + k' * 4 + 1, none⟩) cbb).trans yd1
          have y2 : w2.cell? ⟨b, o + k' * 4 + 2, none⟩ = some (.bool y.2.2.1) := (G2.out.cell (p := ⟨b, o + k' * 4 + 2, none⟩) cbb).trans yd2
          have y3 : w2.cell? ⟨b, o + k' * 4 + 3, none⟩ = some (.slice yvo y.2.2.2.length yvc) := (G2.out.cell (p := ⟨b, o + k' * 4 + 3, none⟩) cbb).trans yd3
          clear hb2
          have hlast : (l.take (k' + 1)).getLast? = some y := by rw [take_snoc' hy.out]; simp
          have HCM := Lib.hid (cmpE_any _ _ _ _ y x w2.drew (hkv'.out.below G2.out.drew) (hvv'.out.below G2.out.drew) (hkv.out.below G2.out.drew) (hvv.out.below G2.out.drew))
          have HCE2 : Hid (chkE (l.take (k' + 1)) x = if 0 ≤ cmpE y x then 42 else 0) := Lib.hid (by rw [HCE.out, hlast])
          clear hlast HCE
          have p4 : (0 : Int) ≤ (k' : Int) + 1 := by omega
          have p5 : (k' : Int) + 1 < l.length := by omega
          have p6 : (k' : Int) < l.length := by omega
          have p7 : (0 : Int) ≤ (k' : Int) := by omega
          have p8 := IntWalk.i64_in (k' : Int) (by omega)
          have p9 := IntWalk.i64_in ((k' : Int) + 1 - 1) (by omega)
          go_wp2_with fail
          go_region_held3 (fun w' => w'.cell? ⟨b, o + (k' + 1) * 4, none⟩ = some (.slice xko x.1.length xkc) ∧ w'.cell? ⟨b, o + (k' + 1) * 4 + 1, none⟩ = some (.int .u64 x.2.1) ∧ w'.cell? ⟨b, o + (k' + 1) * 4 + 2, none⟩ = some (.bool x.2.2.1) ∧ w'.cell? ⟨b, o + (k' + 1) * 4 + 3, none⟩ = some (.slice xvo x.2.2.2.length xvc) ∧ w'.cell? ⟨b, o + k' * 4, none⟩ = some (.slice yko y.1.length ykc) ∧ w'.cell? ⟨b, o + k' * 4 + 1, none⟩ = some (.int .u64 y.2.1) ∧ w'.cell? ⟨b, o + k' * 4 + 2, none⟩ = some (.bool y.2.2.1) ∧ w'.cell? ⟨b, o + k' * 4 + 3, none⟩ = some (.slice yvo y.2.2.2.length yvc)) (first | exact ⟨by assumption, by assumption, by assumption, by assumption, by assumption, by assumption, by assumption, by assumption⟩ | go_keep) ((go_at_call 30; refine HCM.out.mono ?_; rintro e w3 ⟨rfl, g1⟩; have G3 : Hid (Below w.heap.size w w3) := Lib.hid (bel_call G2.out.drew g1); clear g1; have x0 : w3.cell? ⟨b, o + (k' + 1) * 4, none⟩ = some (.slice xko x.1.length xkc) := (G3.out.cell (p := ⟨b, o + (k' + 1) * 4, none⟩) cbb).trans xd0; have x1 : w3.cell? ⟨b, o + (k' + 1) * 4 + 1, none⟩ = some (.int .u64 x.2.1) := (G3.out.cell (p := ⟨b, o + (k' + 1) * 4 + 1, none⟩) cbb).trans xd1; have x2 : w3.cell? ⟨b, o + (k' + 1) * 4 + 2, none⟩ = some (.bool x.2.2.1) := (G3.out.cell (p := ⟨b, o + (k' + 1) * 4 + 2, none⟩) cbb).trans xd2; have x3 : w3.cell? ⟨b, o + (k' + 1) * 4 + 3, none⟩ = some (.slice xvo x.2.2.2.length xvc) := (G3.out.cell (p := ⟨b, o + (k' + 1) * 4 + 3, none⟩) cbb).trans xd3; have y0 : w3.cell? ⟨b, o + k' * 4, none⟩ = some (.slice yko y.1.length ykc) := (G3.out.cell (p := ⟨b, o + k' * 4, none⟩) cbb).trans yd0; have y1 : w3.cell? ⟨b, o + k' * 4 + 1, none⟩ = some (.int .u64 y.2.1) := (G3.out.cell (p := ⟨b, o + k' * 4 + 1, none⟩) cbb).trans yd1; have y2 : w3.cell? ⟨b, o + k' * 4 + 2, none⟩ = some (.bool y.2.2.1) := (G3.out.cell (p := ⟨b, o + k' * 4 + 2, none⟩) cbb).trans yd2; have y3 : w3.cell? ⟨b, o + k' * 4 + 3, none⟩ = some (.slice yvo y.2.2.2.length yvc) := (G3.out.cell (p := ⟨b, o + k' * 4 + 3, none⟩) cbb).trans yd3))
          by_cases hcm : 0 ≤ cmpE y x
          · have HC1 : Hid (codeF l bb pk = 42) := Lib.hid (by rw [HC.out, HST.out, HCE2.out, if_pos hcm]; simp)
            all_goals (
              go_wp2_with fail
              refine bodyPost_ret (v := .tuple #[.slice none 0 0, .int .i64 42]) (by first | (simp [results, Try.results10, go_sem]; done) | (simp [results, Try.results10, go_sem]; go_simp)) rfl (buildP_no HC1.out (by decide) G3.out))
          · have HN2 : Hid (chkF [] l = chkF (l.take (k' + 1 + 1)) (l.drop (k' + 1 + 1))) := Lib.hid (by rw [HST.out, HCE2.out, if_neg hcm]; simp)
            have hxv : x.2.2.2.length ≤ 65536 := by
              have := hm
              unfold mayB at this
              simp only [Bool.and_eq_true, decide_eq_true_eq] at this
              omega
            have p10 := IntWalk.i64_in (vm + (x.2.2.2.length : Int)) (by omega)
            have HVS : Hid (valF (l.take (k' + 1 + 1)) = valF (l.take (k' + 1)) + x.2.2.2.length) := Lib.hid (by rw [take_snoc' hx.out, valF_snoc])
            by_cases hmn : 16777216 < vm + (x.2.2.2.length : Int)
            · have HV2 : Hid ((16777216 : Int) = ((min (valF (l.take (k' + 1 + 1))) 16777216 : Nat) : Int)) := Lib.hid (by have := hvm.out; rw [HVS.out]; omega)
              all_goals (
                go_wp2_with fail
                go_roundw
                case rel => exact ⟨k' + 1 + 1, by omega, by go_num, 16777216, rfl, by omega, by omega, HV2, HN2, G3.out⟩
                case measure => simp [intOf] <;> omega)
            · have hmn' : vm + (x.2.2.2.length : Int) ≤ 16777216 := by omega
              have HV2 : Hid (vm + (x.2.2.2.length : Int) = ((min (valF (l.take (k' + 1 + 1))) 16777216 : Nat) : Int)) := Lib.hid (by have := hvm.out; rw [HVS.out]; omega)
              all_goals (
                go_wp2_with fail
                go_roundw
                case rel => exact ⟨k' + 1 + 1, by omega, by go_num, _, rfl, by omega, by omega, HV2, HN2, G3.out⟩
                case measure => simp [intOf] <;> omega)
      · have hm' : mayB x = false := by simpa using hm
        have HCE : Hid (chkF [] l = 41) := Lib.hid (by
          have h1 : chkE (l.take k) x = 41 := by unfold chkE; simp only [hm', if_true]
          rw [HST.out, if_pos (by rw [h1]; decide), h1])
        rw [hm'] at HMY
        go_wp2_with fail
        refine HMY.out.mono ?_
        rintro e w2 ⟨rfl, hb2⟩
        have G2 : Hid (Below w.heap.size w w2) := Lib.hid (bel_call hb.out hb2)
        have HC1 : Hid (codeF l bb pk = 41) := Lib.hid (by rw [HC.out, HCE.out, if_pos (by decide)])
        go_wp2_with fail
        refine bodyPost_ret (v := .tuple #[.slice none 0 0, .int .i64 41]) (by first | (simp [results, Try.results10, go_sem]; done) | (simp [results, Try.results10, go_sem]; go_simp)) rfl (buildP_no HC1.out (by decide) G2.out)
    · have hkk : k = l.length := by omega
      subst hkk
      have p0 : ¬ ((l.length : Int) < (l.length : Int)) := by omega
      have HZ : Hid (chkF [] l = 0) := Lib.hid (by rw [hch.out, List.drop_length]; rfl)
      have HV : Hid (vm = ((min (valF l) 16777216 : Nat) : Int)) := Lib.hid (by have := hvm.out; rwa [List.take_length] at this)
      clear hvm hch
      by_cases hv : 4194304 < vm
      · have HC1 : Hid (codeF l bb pk = 43) := Lib.hid (by rw [HC.out, HZ.out, if_neg (by decide), if_pos (Or.inl (by have := HV.out; omega))])
        go_wp2_with fail
        refine bodyPost_ret (v := .tuple #[.slice none 0 0, .int .i64 43]) (by first | (simp [results, Try.results10, go_sem]; done) | (simp [results, Try.results10, go_sem]; go_simp)) rfl (buildP_no HC1.out (by decide) hb.out)
      obtain ⟨bn, rfl⟩ := Int.eq_ofNat_of_zero_le (show 0 ≤ bb by omega)
      obtain ⟨pn, rfl⟩ := Int.eq_ofNat_of_zero_le (show 0 ≤ pk by omega)
      have HC2 : Hid (codeF l bn pn = if 4194304 < valF l ∨ 2097152 < (idxF (blksF l bn)).length ∨ 4194304 < (tableF l (blksF l bn) bn pn).length then 43 else 0) := Lib.hid (by rw [HC.out, HZ.out, if_neg (by decide)]; rfl)
      have HBY : Hid (Calls Try.prog 31 #[.slice lo l.length lc, .int .i64 bn, .int .i64 pn] wr (BytesP l (blksF l bn) bn pn wr)) := Lib.hid (bytes_any _ l bn pn wr (HL.out.below enR_stays hb.out) (chk_may [] l HZ.out) (by omega) hll (by omega))
      have HVN : Hid (¬ 4194304 < valF l) := Lib.hid (by have := HV.out; omega)
      go_wp2_with fail
      refine HBY.out.mono ?_
      rintro e w2 ⟨hb2, (⟨hlt, rfl⟩ | ⟨hle, v, rfl, hv2⟩)⟩
      · have G2 : Hid (Below w.heap.size w w2) := Lib.hid (bel_call hb.out hb2)
        have HC1 : Hid (codeF l bn pn = 43) := Lib.hid (by rw [HC2.out, if_pos (Or.inr (Or.inl hlt))])
        clear hb2
        go_wp2_with fail
        refine bodyPost_ret (v := .tuple #[.slice none 0 0, .int .i64 43]) (by first | (simp [results, Try.results10, go_sem]; done) | (simp [results, Try.results10, go_sem]; go_simp)) rfl (buildP_no HC1.out (by decide) G2.out)
      · have G2 : Hid (Below w.heap.size w w2) := Lib.hid (bel_call hb.out hb2)
        have HO := Lib.hid (hv2.mono hb.out.size)
        obtain ⟨vo, vc, rfl, f1, f2, f3, -⟩ := hv2.form
        have HLE := Lib.hid hle
        clear hb2 hv2 hle
        by_cases hlg : 4194304 < (tableF l (blksF l bn) bn pn).length
        · have hlg' : (4194304 : Int) < ((tableF l (blksF l bn) bn pn).length : Int) := by omega
          have HC1 : Hid (codeF l bn pn = 43) := Lib.hid (by rw [HC2.out, if_pos (Or.inr (Or.inr hlg))])
          go_wp2_with fail
          refine bodyPost_ret (v := .tuple #[.slice none 0 0, .int .i64 43]) (by first | (simp [results, Try.results10, go_sem]; done) | (simp [results, Try.results10, go_sem]; go_simp)) rfl (buildP_no HC1.out (by decide) G2.out)
        · have hlg' : ¬ (4194304 : Int) < ((tableF l (blksF l bn) bn pn).length : Int) := by omega
          have HC1 : Hid (codeF l bn pn = 0) := Lib.hid (by rw [HC2.out, if_neg (by rw [not_or, not_or]; exact ⟨HVN.out, by have := HLE.out; omega, hlg⟩)])
          go_wp2_with fail
          refine bodyPost_ret (v := .tuple #[.slice vo (tableF l (blksF l bn) bn pn).length vc, .int .i64 0]) (by first | (simp [results, Try.results10, go_sem]; done) | (simp [results, Try.results10, go_sem]; go_simp)) rfl ⟨_, by rw [HC1.out], by unfold tabF; rw [if_pos HC1.out]; exact HO.out, G2.out⟩
end Ss
end Go.Proofs.Ytmojbamloanleaa
