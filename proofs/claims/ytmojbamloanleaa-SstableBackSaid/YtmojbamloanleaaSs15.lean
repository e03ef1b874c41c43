/- sstable: a block is closed (walk). -/
import Derived.Test.YtmojbamloanleaaSs14
set_option linter.unusedVariables false
set_option linter.unusedSimpArgs false
namespace Go.Proofs.Ytmojbamloanleaa
open Go.RowKit
namespace Ss
open Mt Codec
theorem alloc_at (w : World) (o : Obj) : (w.alloc o).drew.heap[w.heap.size]? = some o := by
  show (w.heap.push o)[w.heap.size]? = some o
  simp
set_option maxRecDepth 100000 in
set_option maxHeartbeats 8000000 in
theorem close_any (base wb : Nat) (ov bv iv lv : Value) (out body idx last : List Int) (many nb : Nat) (w : World) (h : Bu base w wb ov bv iv lv out body idx many nb last) (hout : out.length ≤ 17592186044416) (hbl : body.length ≤ 66000) (hidx : idx.length ≤ 17592186044416) (hm : many ≤ 65536) (hnb : nb ≤ 65536) (hll : last.length ≤ 256) :
    Calls Try.prog 36 #[.pointer (some ⟨wb, 0, none⟩)] w (BuP base wb ov iv (out ++ frameF 68 body) [] (idx ++ numN out.length ++ numN (frameF 68 body).length ++ numN many ++ (numN last.length ++ last)) 0 (nb + 1) last w) := by
  obtain ⟨i0, hi0, hz0, hz1, hz2⟩ := info_parts infoU8
  have HI := Lib.hid hi0; have HZ0 := Lib.hid hz0; have HZ1 := Lib.hid hz1; have HZ2 := Lib.hid hz2
  have c0 := h.c0
  have c1 := h.c1
  have HF := Lib.hid (frame_any base wb ov bv iv lv bv out body idx last body many nb 68 w h (by decide) h.ob.isB (by omega) (by omega))
  have HFR := Lib.hid (frame_le (k := 68) (l := body) (by omega))
  have HWB := Lib.hid h.lt
  obtain ⟨oo, oc, rfl, -, -, -, -⟩ := own_form h.oo
  obtain ⟨bo, bc, rfl, -, -, -, -⟩ := h.ob.form
  clear hi0 hz0 hz1 hz2 h
  go_enter Try.func36, Try.ntmps36
  go_wp2_with fail
  refine HF.out.mono ?_
  unfold BuP
  rintro e w1 ⟨rfl, ⟨ov1, bv1, iv1, lv1, h1, k1⟩, g1⟩
  have K1 := Lib.hid k1
  have G1 := Lib.hid g1
  clear k1 g1 c0 c1 HF
  obtain ⟨F, hF⟩ : ∃ F : Nat, (frameF 68 body).length = F := ⟨_, rfl⟩
  have HXL : Hid ((out ++ frameF 68 body).length = out.length + F) := Lib.hid (by rw [List.length_append, hF])
  generalize hX : out ++ frameF 68 body = X at h1 HXL
  rw [hF] at HFR
  have HX := Lib.hid hX
  have HFE := Lib.hid hF
  clear hX hF
  have H1 := Lib.hid h1
  have d0 := h1.c0
  have d3 := h1.c3
  obtain ⟨o1, oc1, rfl, -, -, -, -⟩ := own_form h1.oo
  have hxl : (X.length : Int) - (out.length : Int) = (F : Int) := by have := HXL.out; omega
  have p1 := IntWalk.i64_in ((X.length : Int) - (out.length : Int)) (by have := HXL.out; have := HFR.out; omega)
  have p2 := IntWalk.i64_in (F : Int) (by have := HFR.out; omega)
  clear h1
  go_wp2_with fail
  go_region_held3 (fun w' => w'.cell? ⟨wb, 0, none⟩ = some (Value.slice o1 X.length oc1) ∧ w'.cell? ⟨wb, 3, none⟩ = some (.int .i64 many)) (first | exact ⟨by assumption, by assumption⟩ | go_keep) (fail)
  go_wp2_with fail
  have HN1 : Hid (ClI base w1 (w1.alloc (.cells #[.int .i64 out.length, .int .i64 F, .int .i64 many] 3)).drew wb (.slice o1 X.length oc1) bv1 iv1 iv1 lv1 X body (ixJ idx out.length F many 0) many nb last w1.heap.size out.length F many) := Lib.hid
    ⟨H1.out.below ((Below.refl _ w1).alloc (Nat.le_refl _) _).drew, alloc_at w1 _, fun _ _ e => e, (Chg.refl _ w1).call ((Below.refl _ w1).alloc (Nat.le_refl _) _).drew, Nat.le_refl _⟩
  have HIXL : Hid (∀ j, (ixJ idx out.length F many j).length ≤ idx.length + 30) := Lib.hid (ixJ_len idx _ _ _ (by omega) (by have := HFR.out; omega) (by omega))
  have HNJ : Hid (∀ j, nJ out.length F many j < 35184372088832) := Lib.hid (nJ_lt (by omega) (by have := HFR.out; omega) (by omega))
  clear H1 d0 d3 hxl p1 p2
  go_loopw [32] (fun iv wr => ∃ j : Nat, j ≤ 3 ∧ iv = .int .i64 j ∧ ∃ ivv, Hid (ClI base w1 wr wb (.slice o1 X.length oc1) bv1 iv1 ivv lv1 X body (ixJ idx out.length F many j) many nb last w1.heap.size out.length F many)) (fun iv _ => 3 - (intOf iv).toNat)
  case atStart => exact ⟨0, by omega, rfl, _, HN1⟩
  case round =>
    obtain ⟨j, hj, rfl, ivv, hcl⟩ := hrel
    by_cases hj3 : j < 3
    · have HST := Lib.hid (ixJ_step idx out.length F many j hj3)
      have hnl := HNJ.out j
      have hll2 := HIXL.out j
      have r0 : wr.cell? ⟨w1.heap.size, j, none⟩ = some (.int .i64 (nJ out.length F many j)) := by rw [cell_of_row _ _ _ _ _ _ hcl.out.row]; exact nJ_cell _ _ _ j hj3
      generalize nJ out.length F many j = n at HST hnl r0
      generalize ixJ idx out.length F many j = L at HST hll2 hcl
      have c2 := hcl.out.bu.c2
      obtain ⟨io, ic, rfl, -, -, -, -⟩ := own_form hcl.out.bu.oi
      have q1 : (j : Int) < 3 := by omega
      have q2 := IntWalk.i64_in ((j : Int) + 1) (by omega)
      have q3 := IntWalk.u64_in (n : Int) (by omega)
      have q4 : (0 : Int) ≤ (j : Int) := by omega
      have q5 := IntWalk.i64_in (j : Int) (by omega)
      go_wp2_with fail
      go_region_law (first
        | (refine step_of_list rfl ?_; refine wpList_append_bytes' (w := w3) (base := base) (.tmp 40) (.tmp 43) _ rfl rfl i0 _ Try.underlying25 HI.out HZ0.out HZ1.out HZ2.out rfl _ L (numN n) rfl rfl H3.out.bu.oi N3.out (by have := numN_len10 (n := n) (by omega); omega) (by have := H3.out.bu.lt; have := H3.out.bu.bw; omega) ?_; intro v4 w4 ho4 hg4 hk4; refine list_done ?_; have O4 : Hid (w4.ownsRow base 5 1 v4 (L ++ numN n).length ((L ++ numN n).map (Value.int .u8))) := Lib.hid (by rw [List.length_append]; exact ho4); obtain ⟨o4, ic4, rfl, -, -, -, -⟩ := own_form O4.out; have G4 : Hid (Chg (fun b => (Value.slice io L.length ic).ownBlock = some b) w3 w4) := Lib.hid (Chg.of_grown hg4 (fun b _ e => e)); have K4 : Hid ((Value.slice o4 (L ++ numN n).length ic4).ownBlock = (Value.slice io L.length ic).ownBlock ∨ ∃ b, (Value.slice o4 (L ++ numN n).length ic4).ownBlock = some b ∧ w3.heap.size ≤ b) := Lib.hid (by rcases hk4 with h | h; exact .inl h; exact .inr ⟨_, h, Nat.le_refl _⟩); have H4 := Lib.hid (H3.out.grow O4.out (H3.out.bu.ri.append (numN_rng _)) G4.out K4.out); have e4 : w4.cell? ⟨wb, 2, none⟩ = some (Value.slice io L.length ic) := (G4.out.cell H3.out.bu.lt (fun e => H3.out.bu.neI wb e rfl)).trans e2; have z4 : w4.frozen? ⟨wb, 2, none⟩ = false := (G4.out.frozen H3.out.bu.lt (fun e => H3.out.bu.neI wb e rfl)).trans (H3.out.bu.fz 2); clear ho4 hg4 hk4)
        | (go_simp; go_at_call 65; refine (number_any n wr.drew (by omega)).mono ?_; rintro e w3 ⟨v3, rfl, o3, b3⟩; obtain ⟨vo3, vc3, rfl, -, -, -, -⟩ := o3.form; have N3 := Lib.hid o3.isB; have H3 := Lib.hid (hcl.out.below ((Below.refl _ wr).drew.trans b3)); have e2 : w3.cell? ⟨wb, 2, none⟩ = some (.slice io L.length ic) := H3.out.bu.c2; clear o3 b3))
      all_goals (
        have HFIN : Hid (∀ m, m = (L ++ numN n).length → ClI base w1 (w4.setCell ⟨wb, 2, none⟩ (.slice o4 m ic4)) wb (.slice o1 X.length oc1) bv1 iv1 (.slice o4 m ic4) lv1 X body (ixJ idx out.length F many (j + 1)) many nb last w1.heap.size out.length F many) := Lib.hid (by rintro m rfl; rw [HST.out]; exact H4.out)
        go_wp2_with fail
        go_roundw
        case rel => exact ⟨j + 1, by omega, by go_num, _, Lib.hid (HFIN.out _ (by rw [List.length_append]))⟩
        case measure => simp [intOf] <;> omega)
    · have hje : j = 3 := by omega
      subst hje
      have c5 := hcl.out.bu.c5
      have HT := Lib.hid (text_ok _ _ wr hcl.out.bu.isL (by omega))
      have HLR := Lib.hid hcl.out.bu.isL.rng
      obtain ⟨lo, lc, rfl, -, -, -⟩ := hcl.out.bu.isL.form
      have hll2 := HIXL.out 3
      have HIX : Hid (ixJ idx out.length F many 3 = idx ++ numN out.length ++ numN F ++ numN many) := Lib.hid rfl
      generalize ixJ idx out.length F many 3 = L at HIX hll2 hcl
      obtain ⟨T, hT⟩ : ∃ T, numN last.length ++ last = T := ⟨_, rfl⟩
      have HTL : Hid (T.length ≤ 300) := Lib.hid (by have := numN_len10 (n := last.length) (by omega); rw [← hT, List.length_append]; omega)
      have HTR : Hid (Rng T) := Lib.hid (by rw [← hT]; exact (numN_rng _).append HLR.out)
      have q1 : ¬ ((3 : Int) < 3) := by omega
      have q2 := IntWalk.i64_in ((nb : Int) + 1) (by omega)
      have HTT := Lib.hid hT
      go_wp2_with fail
      refine HT.out.mono ?_
      unfold TextPost
      rintro e w2 ⟨v2, rfl, o2, b2⟩
      rw [HTT.out] at o2
      obtain ⟨to_, tc, rfl, -, -, -, -⟩ := own_form o2
      have N2 := Lib.hid (IsB.of_own o2 HTR.out)
      have H2 := Lib.hid (hcl.out.below b2)
      have d2 : w2.cell? ⟨wb, 2, none⟩ = some ivv := H2.out.bu.c2
      obtain ⟨io, ic, rfl, -, -, -, -⟩ := own_form H2.out.bu.oi
      clear o2 b2 HT
      go_wp2_with (at_builtin; refine wpList_append_bytes' (w := w2) (base := base) (.tmp 60) (.tmp 61) _ rfl rfl i0 _ Try.underlying25 HI.out HZ0.out HZ1.out HZ2.out rfl _ L T rfl rfl H2.out.bu.oi N2.out (by have := HTL.out; omega) (by have := H2.out.bu.lt; have := H2.out.bu.bw; omega) ?_; intro v4 w4 ho4 hg4 hk4; have O4 : Hid (w4.ownsRow base 5 1 v4 (L ++ T).length ((L ++ T).map (Value.int .u8))) := Lib.hid (by rw [List.length_append]; exact ho4); obtain ⟨o4, ic4, rfl, -, -, -, -⟩ := own_form O4.out; have G4 : Hid (Chg (fun b => (Value.slice io L.length ic).ownBlock = some b) w2 w4) := Lib.hid (Chg.of_grown hg4 (fun b _ e => e)); have K4 : Hid ((Value.slice o4 (L ++ T).length ic4).ownBlock = (Value.slice io L.length ic).ownBlock ∨ ∃ b, (Value.slice o4 (L ++ T).length ic4).ownBlock = some b ∧ w2.heap.size ≤ b) := Lib.hid (by rcases hk4 with h | h; exact .inl h; exact .inr ⟨_, h, Nat.le_refl _⟩); have H4 := Lib.hid (H2.out.grow O4.out (H2.out.bu.ri.append HTR.out) G4.out K4.out); have hx4 := (G4.out.block wb H2.out.bu.lt (fun e => H2.out.bu.neI wb e rfl)).trans H2.out.bu.box; have e1 := cell_of_row _ _ 1 _ _ _ hx4; have e2 := cell_of_row _ _ 2 _ _ _ hx4; have e3 := cell_of_row _ _ 3 _ _ _ hx4; have e4 := cell_of_row _ _ 4 _ _ _ hx4; have z1 := frozen_of_row _ _ 1 _ _ hx4; have z2 := frozen_of_row _ _ 2 _ _ hx4; have z3 := frozen_of_row _ _ 3 _ _ hx4; have z4 := frozen_of_row _ _ 4 _ _ hx4; simp only [List.getElem?_toArray, List.getElem?_cons_succ, List.getElem?_cons_zero] at e1 e2 e3 e4; clear ho4 hg4 hk4 hx4)
      have HFIN : Hid (∀ (m : Nat) (z u : Int), m = (L ++ T).length → z = ((0 : Nat) : Int) → u = ((nb + 1 : Nat) : Int) → BuP base wb (Value.slice oo out.length oc) iv (out ++ frameF 68 body) [] (idx ++ numN out.length ++ numN (frameF 68 body).length ++ numN many ++ (numN last.length ++ last)) 0 (nb + 1) last w (.returned (.tuple #[])) ((((w4.setCell ⟨wb, 2, none⟩ (.slice o4 m ic4)).setCell ⟨wb, 1, none⟩ (.slice none 0 0)).setCell ⟨wb, 3, none⟩ (.int .i64 z)).setCell ⟨wb, 4, none⟩ (.int .i64 u))) := Lib.hid (by
        rintro m z u rfl rfl rfl
        refine ⟨rfl, ⟨.slice o1 X.length oc1, .slice none 0 0, .slice o4 (L ++ T).length ic4, .slice lo last.length lc, ?_, fun b hb => ⟨fun e => (K1.out b hb).1 e, fun e => (K1.out b hb).2 (H4.out.key b (by have := G1.out.size; omega) e)⟩⟩, ?_⟩
        · have h5 := ((H4.out.bu.set1 (v := .slice none 0 0) (body' := []) (OwnS.of_own (n := 0) (l := []) (World.ownsRow_nil _ _ _ _) Rng.nil) (.symm (.inl rfl)) (.inl rfl)).set3 0).set4 (nb + 1)
          rw [HX.out, HFE.out, ← HIX.out, HTT.out]
          exact h5
        · exact (((G1.out.fresh H4.out.chg (fun b hb e => e.elim .inl fun e => .inr (.inr ((K1.out b hb).2 e)))).set (p := ⟨wb, 1, none⟩) (fun _ => .inl rfl) _).set (p := ⟨wb, 3, none⟩) (fun _ => .inl rfl) _).set (p := ⟨wb, 4, none⟩) (fun _ => .inl rfl) _)
      go_end0
      exact HFIN.out _ _ _ (by rw [List.length_append]) rfl rfl
end Ss
end Go.Proofs.Ytmojbamloanleaa
