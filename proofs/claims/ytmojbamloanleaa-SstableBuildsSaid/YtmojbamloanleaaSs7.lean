/- sstable: how many entries each block has (walk of the reference's Cuts). -/
import Derived.Test.YtmojbamloanleaaSs6
import Derived.Test.YtmojbamloanleaaSs4
set_option linter.unusedVariables false
set_option linter.unusedSimpArgs false
namespace Go.Proofs.Ytmojbamloanleaa
open Go.RowKit
namespace Ss
open Mt Codec
theorem lay_le {a : List Int} {x : En} (h : mayB x = true) : (layS a x).length ≤ 66000 := by
  unfold mayB at h
  simp only [Bool.and_eq_true, decide_eq_true_eq] at h
  have h0 := (comL_le a x.1).2
  have h1 := numN_len10 (n := comL a x.1) (by omega)
  have h2 := numN_len10 (n := x.1.length - comL a x.1) (by omega)
  have h3 := numN_len10 (n := x.2.1.toNat) (by omega)
  have h4 := numN_len10 (n := x.2.2.2.length) (by omega)
  unfold layS
  simp only [List.length_append, List.length_singleton, List.length_drop]
  omega
theorem body_one (e : En) : bodyF [e] = (layS [] e, e.1) := by
  simp [bodyF]
theorem step_le (bb : Int) (hb : bb ≤ 65536) (p : List (List En) × List En) (e : En) (he : mayB e = true) : (bodyF (stepP bb p e).2).1.length ≤ 66000 := by
  have h1 := lay_le (a := []) he
  unfold stepP
  split
  · rw [body_one]
    exact h1
  · rename_i hc
    by_cases hn : p.2 = []
    · rw [hn, List.nil_append, body_one]
      exact h1
    · have : ¬ bb < ((bodyF (p.2 ++ [e])).1.length : Int) := fun h9 => hc ⟨hn, h9⟩
      show (bodyF (p.2 ++ [e])).1.length ≤ 66000
      omega
theorem fold_le (bb : Int) (hb : bb ≤ 65536) : ∀ (l : List En) (p : List (List En) × List En), (bodyF p.2).1.length ≤ 66000 → (∀ x ∈ l, mayB x = true) → (bodyF (l.foldl (stepP bb) p).2).1.length ≤ 66000
  | [], p, h, _ => h
  | e :: l, p, h, hm => fold_le bb hb l (stepP bb p e) (step_le bb hb p e (hm e (List.mem_cons_self ..))) (fun x hx => hm x (List.mem_cons_of_mem _ hx))
theorem part_le (bb : Int) (hb : bb ≤ 65536) (l : List En) (h : ∀ x ∈ l, mayB x = true) : (bodyF (partF bb l).2).1.length ≤ 66000 := fold_le bb hb l ([], []) (by simp [bodyF]) h
theorem fold_sizes (bb : Int) : ∀ (l : List En) (p : List (List En) × List En), (l.foldl (stepP bb) p).1.length ≤ p.1.length + l.length ∧ (l.foldl (stepP bb) p).2.length ≤ p.2.length + l.length
  | [], p => by simp
  | e :: l, p => by
    have ih := fold_sizes bb l (stepP bb p e)
    have h1 : (stepP bb p e).1.length ≤ p.1.length + 1 ∧ (stepP bb p e).2.length ≤ p.2.length + 1 := by
      unfold stepP
      split <;> simp
    simp only [List.foldl_cons, List.length_cons]
    omega
theorem part_sizes (bb : Int) (l : List En) : (partF bb l).1.length ≤ l.length ∧ (partF bb l).2.length ≤ l.length := by
  have := fold_sizes bb l ([], [])
  simpa [partF] using this
def CutsP (d : List (List En)) (w : World) (e : Ending) (w' : World) : Prop := ∃ v, e = .returned v ∧ w'.ownsRow w.heap.size 3 1 v d.length (d.map fun b => Value.int .i64 b.length) ∧ Below w.heap.size w w'
theorem infoI : (Try.prog.info? 3).map (fun i => (i.zero, i.size, i.bytes)) = some (some (.int .i64 0), 1, 8) := by kernel_rfl
theorem take_snoc' {α : Type} {l : List α} {k : Nat} {x : α} (h : l[k]? = some x) : l.take (k + 1) = l.take k ++ [x] := by
  rw [List.take_add_one, h]
  rfl
set_option maxRecDepth 100000 in
set_option maxHeartbeats 8000000 in
theorem cuts_any (lv : Value) (l : List En) (bb : Int) (w : World) (hl : IsEs w lv l) (hm : ∀ x ∈ l, mayB x = true) (hb0 : 0 ≤ bb) (hb1 : bb ≤ 65536) (hll : l.length ≤ 65536) :
    Calls Try.prog 46 #[lv, .int .i64 bb] w (CutsP ((partF bb l).1 ++ [(partF bb l).2]) w) := by
  obtain ⟨i0, hi0, hz0, hz1, hz2⟩ := info_parts infoI
  have HI := Lib.hid hi0; have HZ0 := Lib.hid hz0; have HZ1 := Lib.hid hz1; have HZ2 := Lib.hid hz2
  obtain ⟨lo, lc, rfl, -, -, -⟩ := hl.form
  have HL := Lib.hid hl
  have HM := Lib.hid hm
  clear hi0 hz0 hz1 hz2 hl hm
  go_enter Try.func46, Try.ntmps46
  go_wp2_with fail
  go_loopw [5, 6, 7, 8, 9] (fun v by_ mn av i wr => ∃ k : Nat, ∃ done cur, ∃ vv aa : Value, k ≤ l.length ∧ i = .int .i64 k ∧ partF bb (l.take k) = (done, cur) ∧ v = vv ∧ Hid (wr.ownsRow w.heap.size 3 1 vv done.length (done.map fun b => Value.int .i64 b.length)) ∧ by_ = .int .i64 ((bodyF cur).1.length) ∧ mn = .int .i64 cur.length ∧ Hid (av = aa ∧ IsB wr aa (bodyF cur).2) ∧ Hid (Below w.heap.size w wr)) (fun _ _ _ _ i _ => l.length - (intOf i).toNat)
  case atStart => exact ⟨0, [], [], _, _, Nat.zero_le _, rfl, rfl, rfl, World.ownsRow_nil _ _ _ _, rfl, rfl, ⟨rfl, IsB.nil _⟩, Below.refl _ _⟩
  case round =>
    obtain ⟨k, done, cur, vv, aa, hk, rfl, hpt, rfl, ho, rfl, rfl, hav, hb⟩ := hrel
    obtain ⟨rfl, haw⟩ := hav.out
    have HPT := Lib.hid hpt
    have hble : (bodyF cur).1.length ≤ 66000 := by
      have := part_le bb hb1 (l.take k) (fun x hx => HM.out x (List.mem_of_mem_take hx))
      rwa [hpt] at this
    have hsz := part_sizes bb (l.take k)
    rw [hpt] at hsz
    have hdl : done.length ≤ 65536 := by have := hsz.1; rw [List.length_take] at this; simp only at this; omega
    have hcl : cur.length ≤ 65536 := by have := hsz.2; rw [List.length_take] at this; simp only at this; omega
    obtain ⟨vvo, vvc, rfl, -, -, -, -⟩ := own_form ho.out
    obtain ⟨ao, ac, rfl, -, -, -⟩ := haw.form
    have HAW := Lib.hid haw
    clear hpt hsz haw hav
    by_cases hkl : k < l.length
    · obtain ⟨b, o, x, kv, vw, hao, cbb, hx, d0, d1, d2, d3, hkv, hvv, hu⟩ := IsEs.at4 HL.out hkl
      subst hao
      have HMX := Lib.hid (HM.out x (List.mem_of_getElem? hx.out))
      obtain ⟨ko, kc, rfl, -, -, -⟩ := hkv.out.form
      obtain ⟨vo, vc, rfl, -, -, -⟩ := hvv.out.form
      have HKV := Lib.hid hkv.out
      have HVV := Lib.hid hvv.out
      have HLA := Lib.hid (laid_any _ _ _ (bodyF cur).2 x wr HAW.out (HKV.out.below hb.out) (HVV.out.below hb.out) HMX.out)
      have HPS : Hid (partF bb (l.take (k + 1)) = stepP bb (done, cur) x) := Lib.hid (by rw [take_snoc' hx.out, partF_snoc, HPT.out])
      have p0 : (k : Int) < l.length := by omega
      have p1 := IntWalk.i64_in ((k : Int) + 1) (by omega)
      have p2 := IntWalk.i64_in ((cur.length : Int) + 1) (by omega)
      have hxl := lay_le (a := (bodyF cur).2) HMX.out
      have hyl := lay_le (a := []) HMX.out
      have c0 : wr.cell? ⟨b, o + k * 4, none⟩ = some (.slice ko x.1.length kc) := (hb.out.cell (p := ⟨b, o + k * 4, none⟩) cbb).trans d0
      have c1 : wr.cell? ⟨b, o + k * 4 + 1, none⟩ = some (.int .u64 x.2.1) := (hb.out.cell (p := ⟨b, o + k * 4 + 1, none⟩) cbb).trans d1
      have c2 : wr.cell? ⟨b, o + k * 4 + 2, none⟩ = some (.bool x.2.2.1) := (hb.out.cell (p := ⟨b, o + k * 4 + 2, none⟩) cbb).trans d2
      have c3 : wr.cell? ⟨b, o + k * 4 + 3, none⟩ = some (.slice vo x.2.2.2.length vc) := (hb.out.cell (p := ⟨b, o + k * 4 + 3, none⟩) cbb).trans d3
      have zb : b < wr.heap.size := Nat.lt_of_lt_of_le cbb hb.out.size
      clear hkv hvv hx hkl
      go_wp2_with fail
      refine HLA.out.mono ?_
      unfold LaidP
      rintro e w2 ⟨v2, rfl, ho2, hb2⟩
      obtain ⟨v2o, v2c, rfl, -, -, -, -⟩ := ho2.form
      have G2 : Hid (Below w.heap.size w w2) := Lib.hid (bel_call hb.out hb2)
      have O2 := Lib.hid (own_below ho.out hb2)
      have A2 := Lib.hid (HAW.out.below hb2)
      have zb2 : b < w2.heap.size := Nat.lt_of_lt_of_le zb hb2.size
      clear ho2 hb2 c0 c1 c2 c3 HLA
      have c0 : w2.cell? ⟨b, o + k * 4, none⟩ = some (.slice ko x.1.length kc) := (G2.out.cell (p := ⟨b, o + k * 4, none⟩) cbb).trans d0
      have c1 : w2.cell? ⟨b, o + k * 4 + 1, none⟩ = some (.int .u64 x.2.1) := (G2.out.cell (p := ⟨b, o + k * 4 + 1, none⟩) cbb).trans d1
      have c2 : w2.cell? ⟨b, o + k * 4 + 2, none⟩ = some (.bool x.2.2.1) := (G2.out.cell (p := ⟨b, o + k * 4 + 2, none⟩) cbb).trans d2
      have c3 : w2.cell? ⟨b, o + k * 4 + 3, none⟩ = some (.slice vo x.2.2.2.length vc) := (G2.out.cell (p := ⟨b, o + k * 4 + 3, none⟩) cbb).trans d3
      have hbx : (bodyF (cur ++ [x])).1.length = (bodyF cur).1.length + (layS (bodyF cur).2 x).length := by rw [bodyF_snoc, List.length_append]
      have p3 := IntWalk.i64_in (((bodyF cur).1.length : Int) + ((layS (bodyF cur).2 x).length : Int)) (by omega)
      by_cases hc1 : 0 < cur.length
      · have r1 : (0 : Int) < cur.length := by omega
        by_cases hc2 : bb < (((bodyF cur).1.length : Int) + ((layS (bodyF cur).2 x).length : Int))
        · have HST : Hid (stepP bb (done, cur) x = (done ++ [cur], [x])) := Lib.hid (by
            unfold stepP
            rw [if_pos ⟨fun h => by simp only at h; rw [h] at hc1; simp at hc1, by simp only; omega⟩])
          have p4 := IntWalk.i64_in ((0 : Int) + ((layS [] x).length : Int)) (by omega)
          have HLB : Hid (∀ w3, Below w.heap.size w w3 → Calls Try.prog 57 #[.slice none 0 0, .agg #[.slice ko x.1.length kc, .int .u64 x.2.1, .bool x.2.2.1, .slice vo x.2.2.2.length vc]] w3 (LaidP (layS [] x) w3)) := Lib.hid (fun w3 hb3 => laid_any _ _ _ [] x w3 (IsB.nil _) (HKV.out.below hb3) (HVV.out.below hb3) HMX.out)
          clear hbx
          go_wp2_with (at_builtin; refine wpList_append_one (w := w2) (base := w.heap.size) (.tmp 33) (.tmp 35) _ rfl rfl i0 _ 8 Try.underlying39 HI.out HZ0.out HZ1.out HZ2.out rfl (.int .i64 cur.length) rfl rfl O2.out rfl (by omega) (by omega) G2.out.size ?_; intro v9 w3 ho9 hb9; have O9 : Hid (w3.ownsRow w.heap.size 3 1 v9 (done.length + 1) ((done ++ [cur]).map fun b => Value.int .i64 b.length)) := Lib.hid (by rw [List.map_append]; exact ho9); have G3 : Hid (Below w.heap.size w w3) := Lib.hid (G2.out.trans hb9); clear ho9 hb9 c0 c1 c2 c3; have c0 : w3.cell? ⟨b, o + k * 4, none⟩ = some (.slice ko x.1.length kc) := (G3.out.cell (p := ⟨b, o + k * 4, none⟩) cbb).trans d0; have c1 : w3.cell? ⟨b, o + k * 4 + 1, none⟩ = some (.int .u64 x.2.1) := (G3.out.cell (p := ⟨b, o + k * 4 + 1, none⟩) cbb).trans d1; have c2 : w3.cell? ⟨b, o + k * 4 + 2, none⟩ = some (.bool x.2.2.1) := (G3.out.cell (p := ⟨b, o + k * 4 + 2, none⟩) cbb).trans d2; have c3 : w3.cell? ⟨b, o + k * 4 + 3, none⟩ = some (.slice vo x.2.2.2.length vc) := (G3.out.cell (p := ⟨b, o + k * 4 + 3, none⟩) cbb).trans d3; have zb3 : b < w3.heap.size := Nat.lt_of_lt_of_le cbb G3.out.size; obtain ⟨v9o, v9c, rfl, -, -, -, -⟩ := own_form O9.out)
          refine (HLB.out _ G3.out).mono ?_
          unfold LaidP
          rintro e w4 ⟨v4, rfl, ho4, hb4⟩
          obtain ⟨v4o, v4c, rfl, -, -, -, -⟩ := ho4.form
          have G4 : Hid (Below w.heap.size w w4) := Lib.hid (bel_call G3.out hb4)
          have O5 := Lib.hid (own_below O9.out hb4)
          have zb4 : b < w4.heap.size := Nat.lt_of_lt_of_le cbb G4.out.size
          have G5 := G4
          have HAV : Hid (IsB w4 (.slice ko x.1.length kc) (bodyF [x]).2) := Lib.hid (by rw [body_one]; exact HKV.out.below G4.out)
          have PT : Hid (partF bb (l.take (k + 1)) = (done ++ [cur], [x])) := Lib.hid (HPS.out.trans HST.out)
          have HB1 := Lib.hid (body_one x)
          clear ho4 hb4 c0 c1 c2 c3
          have c0 : w4.cell? ⟨b, o + k * 4, none⟩ = some (.slice ko x.1.length kc) := (G4.out.cell (p := ⟨b, o + k * 4, none⟩) cbb).trans d0
          have c1 : w4.cell? ⟨b, o + k * 4 + 1, none⟩ = some (.int .u64 x.2.1) := (G4.out.cell (p := ⟨b, o + k * 4 + 1, none⟩) cbb).trans d1
          have c2 : w4.cell? ⟨b, o + k * 4 + 2, none⟩ = some (.bool x.2.2.1) := (G4.out.cell (p := ⟨b, o + k * 4 + 2, none⟩) cbb).trans d2
          have c3 : w4.cell? ⟨b, o + k * 4 + 3, none⟩ = some (.slice vo x.2.2.2.length vc) := (G4.out.cell (p := ⟨b, o + k * 4 + 3, none⟩) cbb).trans d3
          go_wp2_with fail
          refine ⟨⟨k + 1, done ++ [cur], [x], _, _, by omega, by go_num, PT.out, rfl, by rw [List.length_append]; exact O5.out, by first | (rw [HB1.out]; done) | (rw [HB1.out]; go_num), by go_num, Lib.hid ⟨rfl, HAV.out⟩, G5.out⟩, ?_⟩
          simp [intOf]
          omega
        · have HST : Hid (stepP bb (done, cur) x = (done, cur ++ [x])) := Lib.hid (by
            unfold stepP
            rw [if_neg (fun h => by have := h.2; simp only at this; omega)])
          have PT : Hid (partF bb (l.take (k + 1)) = (done, cur ++ [x])) := Lib.hid (HPS.out.trans HST.out)
          have HAV : Hid (IsB w2 (.slice ko x.1.length kc) (bodyF (cur ++ [x])).2) := Lib.hid (by rw [bodyF_snoc]; exact HKV.out.below G2.out)
          have HBX := Lib.hid hbx
          clear hbx
          go_wp2_with fail
          refine ⟨⟨k + 1, done, cur ++ [x], _, _, by omega, by go_num, PT.out, rfl, O2.out, by rw [HBX.out]; go_num, by rw [List.length_append]; go_num, Lib.hid ⟨rfl, HAV.out⟩, G2.out⟩, ?_⟩
          simp [intOf]
          omega
      · have hc3 : cur = [] := List.eq_nil_of_length_eq_zero (by omega)
        subst hc3
        have HST : Hid (stepP bb (done, []) x = (done, [x])) := Lib.hid (by
          unfold stepP
          rw [if_neg (fun h => h.1 rfl)]
          rfl)
        have PT : Hid (partF bb (l.take (k + 1)) = (done, [x])) := Lib.hid (HPS.out.trans HST.out)
        have HAV : Hid (IsB w2 (.slice ko x.1.length kc) (bodyF [x]).2) := Lib.hid (by rw [body_one]; exact HKV.out.below G2.out)
        have HBX : Hid ((bodyF [x]).1.length = (bodyF []).1.length + (layS (bodyF []).2 x).length) := Lib.hid (by simpa using hbx)
        clear hbx hc1
        go_wp2_with fail
        refine ⟨⟨k + 1, done, [x], _, _, by omega, by go_num, PT.out, rfl, O2.out, by rw [HBX.out]; go_num, by go_num, Lib.hid ⟨rfl, HAV.out⟩, G2.out⟩, ?_⟩
        simp [intOf]
        omega
    · have hke : k = l.length := by omega
      subst hke
      have HP9 : Hid (partF bb l = (done, cur)) := Lib.hid (by have := HPT.out; rwa [List.take_length] at this)
      have p0 : ¬ ((l.length : Nat) : Int) < l.length := by omega
      clear hkl
      go_wp2_with (at_builtin; refine wpList_append_one (w := wr) (base := w.heap.size) (.tmp 53) (.tmp 55) _ rfl rfl i0 _ 8 Try.underlying39 HI.out HZ0.out HZ1.out HZ2.out rfl (.int .i64 cur.length) rfl rfl ho.out rfl (by omega) (by omega) hb.out.size ?_; intro v9 w3 ho9 hb9; have O9 : Hid (w3.ownsRow w.heap.size 3 1 v9 (done.length + 1) ((done ++ [cur]).map fun b => Value.int .i64 b.length)) := Lib.hid (by rw [List.map_append]; exact ho9); have G3 : Hid (Below w.heap.size w w3) := Lib.hid (hb.out.trans hb9); clear ho9 hb9; obtain ⟨v9o, v9c, rfl, -, -, -, -⟩ := own_form O9.out)
      go_ret
      rw [HP9.out]
      refine ⟨_, rfl, ?_, G3.out⟩
      simpa using O9.out
end Ss
end Go.Proofs.Ytmojbamloanleaa
