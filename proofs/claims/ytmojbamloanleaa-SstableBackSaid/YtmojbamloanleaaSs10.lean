/- sstable: the reference's bytes (walk). -/
import Derived.Test.YtmojbamloanleaaSs9b
set_option linter.unusedVariables false
set_option linter.unusedSimpArgs false
namespace Go.Proofs.Ytmojbamloanleaa
open Go.RowKit
namespace Ss
open Mt Codec
theorem last_le (bl : List En) (h : ∀ x ∈ bl, mayB x = true) : (bodyF bl).2.length ≤ 256 := by
  rcases List.eq_nil_or_concat bl with rfl | ⟨b, e, rfl⟩
  · simp [bodyF]
  · rw [List.concat_eq_append, bodyF_snoc]
    have := h e (by simp)
    unfold mayB at this
    simp only [Bool.and_eq_true, decide_eq_true_eq] at this
    show e.1.length ≤ 256
    omega
theorem fold_all (bb : Int) (hb : bb ≤ 65536) : ∀ (l : List En) (p : List (List En) × List En), (∀ b ∈ p.1, (bodyF b).1.length ≤ 66000) → (bodyF p.2).1.length ≤ 66000 → (∀ x ∈ l, mayB x = true) → ∀ b ∈ (l.foldl (stepP bb) p).1 ++ [(l.foldl (stepP bb) p).2], (bodyF b).1.length ≤ 66000
  | [], p, h1, h2, _ => fun b hb9 => by
    rcases List.mem_append.1 hb9 with h | h
    · exact h1 b h
    · rw [List.mem_singleton.1 h]; exact h2
  | e :: l, p, h1, h2, hm => by
    rw [List.foldl_cons]
    refine fold_all bb hb l (stepP bb p e) ?_ (step_le bb hb p e (hm e (List.mem_cons_self ..))) (fun x hx => hm x (List.mem_cons_of_mem _ hx))
    unfold stepP
    split
    · intro b hb9
      rcases List.mem_append.1 hb9 with h | h
      · exact h1 b h
      · rw [List.mem_singleton.1 h]; exact h2
    · exact h1
theorem part_all (bb : Int) (hb : bb ≤ 65536) (l : List En) (hm : ∀ x ∈ l, mayB x = true) : ∀ b ∈ (partF bb l).1 ++ [(partF bb l).2], (bodyF b).1.length ≤ 66000 := fold_all bb hb l ([], []) (fun b h => by cases h) (by simp [bodyF]) hm
theorem done_le : ∀ (d : List (List En)) (p : List Int × List Int), (∀ b ∈ d, (bodyF b).1.length ≤ 66000 ∧ (bodyF b).2.length ≤ 256 ∧ b.length ≤ 65536) → p.1.length ≤ 4503599627370496 - 70000 * d.length → d.length ≤ 65537 → (d.foldl blkF p).1.length ≤ p.1.length + 66015 * d.length ∧ (d.foldl blkF p).2.length ≤ p.2.length + 400 * d.length
  | [], p, _, _, _ => by simp
  | b :: d, p, h, hp, hd => by
    obtain ⟨h1, h2, h3⟩ := h b (List.mem_cons_self ..)
    have hf := frame_le (k := 68) (l := (bodyF b).1) (by omega)
    simp only [List.length_cons] at hp hd ⊢
    have n1 := numN_len10 (n := p.1.length) (by omega)
    have n2 := numN_len10 (n := (frameF 68 (bodyF b).1).length) (by omega)
    have n3 := numN_len10 (n := b.length) (by omega)
    have n4 := numN_len10 (n := (bodyF b).2.length) (by omega)
    have e1 : (blkF p b).1.length = p.1.length + (frameF 68 (bodyF b).1).length := by simp [blkF]
    have e2 : (blkF p b).2.length ≤ p.2.length + 400 := by simp [blkF]; omega
    have ih := done_le d (blkF p b) (fun c hc => h c (List.mem_cons_of_mem _ hc)) (by omega) (by omega)
    rw [List.foldl_cons]
    omega
def idxF (D : List (List En)) : List Int := numN D.length ++ (doneF D).2
def out1 (l : List En) (D : List (List En)) (pn : Nat) : List Int := (doneF D).1 ++ frameF 70 (Bloom.makeF (keysF l) pn)
def out2 (l : List En) (D : List (List En)) (pn : Nat) : List Int := out1 l D pn ++ frameF 73 (idxF D)
def footT (l : List En) (D : List (List En)) (bn pn : Nat) : List Int := hiB (doneF D).1.length 8 ++ hiB (out1 l D pn).length 8 ++ hiB l.length 8 ++ hiB bn 4 ++ hiB pn 4 ++ [67, 79, 82, 77]
/-- a table's bytes -/
def tableF (l : List En) (D : List (List En)) (bn pn : Nat) : List Int := out2 l D pn ++ (footT l D bn pn ++ le4 (sumF (footT l D bn pn)))
def BytesP (l : List En) (D : List (List En)) (bn pn : Nat) (w : World) (e : Ending) (w' : World) : Prop :=
  Below w.heap.size w w' ∧ ((2097152 < (idxF D).length ∧ e = .returned (.tuple #[.slice none 0 0, .bool false])) ∨ ((idxF D).length ≤ 2097152 ∧ ∃ v, e = .returned (.tuple #[v, .bool true]) ∧ OwnS w' w.heap.size 5 v (tableF l D bn pn)))
theorem corm (w : World) : IsB (w.alloc (.cells #[.int .u8 67, .int .u8 79, .int .u8 82, .int .u8 77] 5)) (.slice (some ⟨w.heap.size, 0, none⟩) 4 4) [67, 79, 82, 77] :=
  IsB.of_own (base := w.heap.size) (n := 4) (World.ownsRow_lit w #[.int .u8 67, .int .u8 79, .int .u8 82, .int .u8 77] 4 (Nat.le_refl _) (by simp [maxLen]) (by simp)) (fun y hy => by simp at hy; omega)
structure R3 (w W : World) (v8 v10 v9 : Value) (n8 : Nat) (L8 : List Int) (n10 : Nat) (L10 : List Int) (D : List (List En)) : Prop where
  o8 : W.ownsRow w.heap.size 5 1 v8 n8 (L8.map (Value.int .u8))
  o10 : W.ownsRow w.heap.size 5 1 v10 n10 (L10.map (Value.int .u8))
  o9 : W.ownsRow w.heap.size 3 1 v9 D.length (D.map fun b => Value.int .i64 b.length)
  ap : Apart v8 v10
  bel : Below w.heap.size w W
section
variable {w W W' : World} {v8 v10 v9 v' : Value} {n8 n10 n' : Nat} {L8 L10 L' : List Int} {D : List (List En)}
theorem R3.below (h : R3 w W v8 v10 v9 n8 L8 n10 L10 D) (hb : Below W.heap.size W W') : R3 w W' v8 v10 v9 n8 L8 n10 L10 D :=
  ⟨own_below h.o8 hb, own_below h.o10 hb, own_below h.o9 hb, h.ap, bel_call h.bel hb⟩
theorem ne_ty {w : World} {base base' n n' size size' : Nat} {e e' : TypeId} {v u : Value} {xs ys : List Value} (hv : w.ownsRow base e size v n xs) (hu : w.ownsRow base' e' size' u n' ys) (hne : e ≠ e') : ∀ b, v.ownBlock = some b → ¬ u.ownBlock = some b := fun b h1 h2 => by
  obtain ⟨-, -, c1, k1⟩ := own_typed hv b h1
  obtain ⟨-, -, c2, k2⟩ := own_typed hu b h2
  rw [k1] at k2
  cases k2
  exact hne rfl
theorem R3.grow8 (h : R3 w W v8 v10 v9 n8 L8 n10 L10 D) (o : W'.ownsRow w.heap.size 5 1 v' n' (L'.map (Value.int .u8))) (c : Chg (fun b => v8.ownBlock = some b) W W') (k : v'.ownBlock = v8.ownBlock ∨ ∃ b, v'.ownBlock = some b ∧ W.heap.size ≤ b) : R3 w W' v' v10 v9 n' L' n10 L10 D :=
  ⟨o, c.own h.o10 (fun b h1 h2 => by
      rcases h.ap with h3 | h3
      · rw [h3] at h2; cases h2
      · exact h3 (h2.trans h1.symm)), c.own h.o9 (ne_ty h.o9 h.o8 (by decide)),
    apart_new h.ap k (fun b hb => (h.o10.lt b hb).2), h.bel.trans (c.below h.bel.size (fun b hb e => by have := (h.o8.lt b e).1; omega))⟩
theorem R3.grow10 (h : R3 w W v8 v10 v9 n8 L8 n10 L10 D) (o : W'.ownsRow w.heap.size 5 1 v' n' (L'.map (Value.int .u8))) (c : Chg (fun b => v10.ownBlock = some b) W W') (k : v'.ownBlock = v10.ownBlock ∨ ∃ b, v'.ownBlock = some b ∧ W.heap.size ≤ b) : R3 w W' v8 v' v9 n8 L8 n' L' D :=
  ⟨c.own h.o8 (fun b h1 h2 => by
      rcases h.ap with h3 | h3
      · rw [h3] at h1; cases h1
      · exact h3 (h1.trans h2.symm)), o, c.own h.o9 (ne_ty h.o9 h.o10 (by decide)),
    (apart_new h.ap.symm k (fun b hb => (h.o8.lt b hb).2)).symm, h.bel.trans (c.below h.bel.size (fun b hb e => by have := (h.o10.lt b e).1; omega))⟩
end
set_option maxRecDepth 100000 in
set_option maxHeartbeats 8000000 in
theorem bytes_any (lv : Value) (l : List En) (bn pn : Nat) (w : World) (hl : IsEs w lv l) (hm : ∀ x ∈ l, mayB x = true) (hbn : bn ≤ 65536) (hll : l.length ≤ 65536) (hpk : 1 ≤ pn ∧ pn ≤ 30) :
    Calls Try.prog 31 #[lv, .int .i64 bn, .int .i64 pn] w (BytesP l ((partF bn l).1 ++ [(partF bn l).2]) bn pn w) := by
  obtain ⟨i0, hi0, hz0, hz1, hz2⟩ := info_parts infoU8
  have HI := Lib.hid hi0; have HZ0 := Lib.hid hz0; have HZ1 := Lib.hid hz1; have HZ2 := Lib.hid hz2
  obtain ⟨lo, lc, rfl, -, -, -⟩ := hl.form
  have HL := Lib.hid hl
  have HM := Lib.hid hm
  have HCU := Lib.hid (cuts_any _ l bn w hl hm (by omega) (by omega) hll)
  have hfl := part_flat bn l
  have hall := part_all bn (by omega) l hm
  have hdl : ((partF bn l).1 ++ [(partF bn l).2]).length ≤ 65537 := by
    have := (part_sizes bn l).1
    simp only [List.length_append, List.length_singleton]
    omega
  revert HCU hfl hall hdl
  generalize (partF bn l).1 ++ [(partF bn l).2] = D
  intro HCU hfl hall hdl
  have HALL : Hid (∀ b ∈ D, (bodyF b).1.length ≤ 66000 ∧ (bodyF b).2.length ≤ 256 ∧ b.length ≤ 65536) := Lib.hid (fun b hb => ⟨hall b hb, last_le b (fun x hx => hm x (by rw [← hfl]; exact List.mem_flatten.2 ⟨b, hb, hx⟩)), by
    have h9 := (List.sublist_flatten_of_mem hb).length_le
    rw [hfl] at h9
    omega⟩)
  have HFL := Lib.hid hfl
  have HKY := Lib.hid (fun (w' : World) (hb : Below w.heap.size w w') => keys_any _ l w' (hl.below enR_stays hb) hll)
  clear hi0 hz0 hz1 hz2 hl hm hfl hall
  have p0 := IntWalk.u64_in (D.length : Int) (by omega)
  go_enter Try.func31, Try.ntmps31
  go_wp2_with fail
  refine HCU.out.mono ?_
  unfold CutsP
  rintro e w1 ⟨v9, rfl, ho9, hb1'⟩
  obtain ⟨co, cc, rfl, -, -, -, -⟩ := own_form ho9
  have O9 : Hid (w1.ownsRow w.heap.size 3 1 (.slice co D.length cc) D.length (D.map fun b => Value.int .i64 b.length)) := Lib.hid ho9
  have G1 := Lib.hid hb1'
  clear ho9 hb1' HCU
  go_wp2_with fail
  refine (rNumber_any D.length _ (by omega)).mono ?_
  unfold RNumPost
  rintro e w2 ⟨v10, rfl, ho10, hb2⟩
  obtain ⟨xo, xc, rfl, -, -, -, -⟩ := own_form ho10
  have O9' : Hid (w2.ownsRow w.heap.size 3 1 (.slice co D.length cc) D.length (D.map fun b => Value.int .i64 b.length)) := Lib.hid (own_below O9.out hb2)
  have O10 := Lib.hid (own_mono ho10 G1.out.size)
  have G2 : Hid (Below w.heap.size w w2) := Lib.hid (bel_call G1.out hb2)
  clear ho10 hb2 O9
  go_wp2_with fail
  go_loopw [8, 10, 11, 12] (fun v8 v10 at_ i wr => ∃ n : Nat, n ≤ D.length ∧ i = .int .i64 n ∧ at_ = .int .i64 (atF (D.take n)) ∧ Hid (wr.ownsRow w.heap.size 5 1 v8 ((doneF (D.take n)).1).length (((doneF (D.take n)).1).map (Value.int .u8))) ∧ Hid (wr.ownsRow w.heap.size 5 1 v10 ((numN D.length).length + (doneF (D.take n)).2.length) ((numN D.length ++ (doneF (D.take n)).2).map (Value.int .u8))) ∧ Hid (Apart v8 v10) ∧ Hid (wr.ownsRow w.heap.size 3 1 (.slice co D.length cc) D.length (D.map fun b => Value.int .i64 b.length)) ∧ Hid (Below w.heap.size w wr)) (fun _ _ _ i _ => D.length - (intOf i).toNat)
  case atStart => exact ⟨0, Nat.zero_le _, rfl, rfl, World.ownsRow_nil _ _ _ _, Lib.hid (by simpa [doneF] using O10.out), .inl rfl, O9'.out, G2.out⟩
  case round =>
    obtain ⟨n, hn, rfl, rfl, h8, h10, hap, h9, hb⟩ := hrel
    by_cases hnl : n < D.length
    · obtain ⟨v8o, v8c, rfl, -, -, -, -⟩ := own_form h8.out
      obtain ⟨v10o, v10c, rfl, -, -, -, -⟩ := own_form h10.out
      have hblk : D[n]? = some D[n] := List.getElem?_eq_getElem hnl
      obtain ⟨blk, hblk⟩ : ∃ blk, D[n]? = some blk := ⟨_, hblk⟩
      have HBK := Lib.hid hblk
      have hba := HALL.out blk (List.mem_of_getElem? hblk)
      have hfa := fun j x hx => flat_at D n blk hblk j x hx
      rw [HFL.out] at hfa
      have HFA := Lib.hid hfa
      have hsum : atF (D.take n) + blk.length ≤ l.length := by
        rcases Nat.eq_zero_or_pos blk.length with h0 | h0
        · have h1 : (D.take n).flatten.length ≤ D.flatten.length := by
            conv => rhs; rw [← List.take_append_drop n D, List.flatten_append, List.length_append]
            omega
          rw [HFL.out, List.length_flatten] at h1
          unfold atF
          omega
        · have h1 := hfa (blk.length - 1) _ (List.getElem?_eq_getElem (by omega))
          have := (List.getElem?_eq_some_iff.1 h1).1
          omega
      obtain ⟨cg, hcg, -, -, hcell⟩ := own_cell h9.out (j := n) (u := .int .i64 blk.length) (by rw [List.getElem?_map, hblk]; rfl)
      subst hcg
      have ccl : cg < wr.heap.size := World.block_lt_of_cell? wr ⟨cg, n, none⟩ hcell
      have HDN := Lib.hid (doneF_take hblk)
      have HAT : Hid (atF (D.take (n + 1)) = atF (D.take n) + blk.length) := Lib.hid (by rw [take_snoc' hblk, atF_snoc])
      have HDL : Hid ((doneF (D.take n)).1.length ≤ 4400000000 ∧ (doneF (D.take n)).2.length ≤ 30000000) := Lib.hid (by
        have h1 := done_le (D.take n) ([], []) (fun b hb => HALL.out b (List.mem_of_mem_take hb)) (by simp) (by rw [List.length_take]; omega)
        rw [List.length_take] at h1
        simp only [List.length_nil] at h1
        unfold doneF
        omega)
      clear hfa hblk hba
      have p1 : (n : Int) < D.length := by omega
      have p2 := IntWalk.i64_in ((n : Int) + 1) (by omega)
      generalize hat : atF (D.take n) = at0 at *
      have HAT0 := Lib.hid hat
      clear hat
      have p3 := IntWalk.i64_in ((at0 : Int) + (blk.length : Int)) (by omega)
      obtain ⟨wo, hwo⟩ : ∃ wo, wo = wr := ⟨_, rfl⟩
      subst wr
      go_wp2_with fail
      go_loopw [13, 14, 15] (fun bv av kx w3 => ∃ j : Nat, j ≤ blk.length ∧ kx = .int .i64 ((at0 + j : Nat) : Int) ∧ Hid (w3.ownsRow wo.heap.size 5 1 bv ((bodyF (blk.take j)).1).length (((bodyF (blk.take j)).1).map (Value.int .u8))) ∧ Hid (IsB w av (bodyF (blk.take j)).2) ∧ Hid (Below wo.heap.size wo w3) ∧ Hid (Rng (bodyF (blk.take j)).1)) (fun _ _ kx _ => at0 + blk.length - (intOf kx).toNat)
      case atStart => exact ⟨0, Nat.zero_le _, rfl, World.ownsRow_nil _ _ _ _, IsB.nil _, Below.refl _ _, Rng.nil⟩
      case round =>
        obtain ⟨j, hj, rfl, hbv, hav, hb3, hrg⟩ := hrel
        obtain ⟨bvo, bvc, rfl, -, -, -, -⟩ := own_form hbv.out
        obtain ⟨avo, avc, rfl, -, -, -⟩ := hav.out.form
        have ccl3 : cg < wr.heap.size := Nat.lt_of_lt_of_le ccl hb3.out.size
        have hcell3 := (hb3.out.cell (p := ⟨cg, n, none⟩) ccl).trans hcell
        have HBW : Hid (Below w.heap.size w wr) := Lib.hid (bel_call hb.out hb3.out)
        by_cases hjl : j < blk.length
        · obtain ⟨x, hx⟩ : ∃ x, blk[j]? = some x := ⟨_, List.getElem?_eq_getElem hjl⟩
          have hlx := HFA.out j x hx
          obtain ⟨kk, hkk⟩ : ∃ kk, kk = at0 + j := ⟨_, rfl⟩
          have hkl : kk < l.length := by rw [hkk]; exact (List.getElem?_eq_some_iff.1 hlx).1
          obtain ⟨b, o, x1, kv, vw, hao, cbb, hx1, d0, d1, d2, d3, hkv, hvv, hu⟩ := IsEs.at4 HL.out hkl
          obtain rfl : x1 = x := by
            have := hx1.out
            rw [hkk, hlx] at this
            exact (Option.some.inj this).symm
          subst hao
          have HMX := Lib.hid (HM.out x1 (List.mem_of_getElem? hx1.out))
          obtain ⟨ko, kc, rfl, -, -, -⟩ := hkv.out.form
          obtain ⟨vo, vc, rfl, -, -, -⟩ := hvv.out.form
          have HKV := Lib.hid hkv.out
          have HVV := Lib.hid hvv.out
          have HLA := Lib.hid (laid_any _ _ _ (bodyF (blk.take j)).2 x1 wr (hav.out.below HBW.out) (HKV.out.below HBW.out) (HVV.out.below HBW.out) HMX.out)
          have HBF := Lib.hid (bodyF_take hx)
          have hbl9 : (bodyF (blk.take j)).1.length ≤ 66000 * 65536 := by
            have h1 := body_len (blk.take j) ([], []) (fun y hy => HM.out y (by rw [← HFL.out]; exact List.mem_flatten.2 ⟨blk, List.mem_of_getElem? HBK.out, List.mem_of_mem_take hy⟩))
            rw [List.length_take] at h1
            have h2 : ((blk.take j).foldl (fun p e => (p.1 ++ layS p.2 e, e.1)) (([] : List Int), ([] : List Int))).1.length = (bodyF (blk.take j)).1.length := rfl
            simp only [List.length_nil] at h1
            omega
          have hxl := lay_le (a := (bodyF (blk.take j)).2) HMX.out
          have e0 : (at0 : Int) + (j : Int) = (kk : Int) := by omega
          have q0 : (kk : Int) < (at0 : Int) + (blk.length : Int) := by omega
          have q1 : (kk : Int) < l.length := by omega
          have q2 : (0 : Int) ≤ kk := by omega
          have q3 := IntWalk.i64_in ((kk : Int) + 1) (by omega)
          have e1 : ((at0 + j : Nat) : Int) = (kk : Int) := by omega
          rw [e1]
          have c0 : wr.cell? ⟨b, o + kk * 4, none⟩ = some (.slice ko x1.1.length kc) := (HBW.out.cell (p := ⟨b, o + kk * 4, none⟩) cbb).trans d0
          have c1 : wr.cell? ⟨b, o + kk * 4 + 1, none⟩ = some (.int .u64 x1.2.1) := (HBW.out.cell (p := ⟨b, o + kk * 4 + 1, none⟩) cbb).trans d1
          have c2 : wr.cell? ⟨b, o + kk * 4 + 2, none⟩ = some (.bool x1.2.2.1) := (HBW.out.cell (p := ⟨b, o + kk * 4 + 2, none⟩) cbb).trans d2
          have c3 : wr.cell? ⟨b, o + kk * 4 + 3, none⟩ = some (.slice vo x1.2.2.2.length vc) := (HBW.out.cell (p := ⟨b, o + kk * 4 + 3, none⟩) cbb).trans d3
          have zb : b < wr.heap.size := Nat.lt_of_lt_of_le cbb HBW.out.size
          have HKK := Lib.hid hkk
          clear hkv hvv hx hx1 hlx hkl e0 e1 hkk
          go_wp2_with fail
          refine HLA.out.mono ?_
          unfold LaidP
          rintro e w4 ⟨v16, rfl, ho4, hb4⟩
          obtain ⟨v16o, v16c, rfl, -, -, -, -⟩ := ho4.form
          have N16 := Lib.hid ho4.isB
          have R16 := Lib.hid ho4.rng
          have B4 : Hid (Below wo.heap.size wo w4) := Lib.hid (bel_call hb3.out hb4)
          have OB4 := Lib.hid (own_below hbv.out hb4)
          clear ho4 hb4 c0 c1 c2 c3 HLA
          go_wp2_with (at_builtin; refine wpList_append_bytes (w := w4) (base := wo.heap.size) (.tmp 56) (.tmp 57) _ rfl rfl i0 _ Try.underlying25 HI.out HZ0.out HZ1.out HZ2.out rfl _ (bodyF (blk.take j)).1 (layS (bodyF (blk.take j)).2 x1) rfl rfl OB4.out N16.out (by omega) B4.out.size ?_; intro v5 w5 ho5 hb5; have O5 : Hid (w5.ownsRow wo.heap.size 5 1 v5 ((bodyF (blk.take (j + 1))).1).length (((bodyF (blk.take (j + 1))).1).map (Value.int .u8))) := Lib.hid (by rw [HBF.out, List.length_append]; exact ho5); have B5 : Hid (Below wo.heap.size wo w5) := Lib.hid (B4.out.trans hb5); have BW5 : Hid (Below w.heap.size w w5) := Lib.hid (bel_call hb.out B5.out); have c0 : w5.cell? ⟨b, o + kk * 4, none⟩ = some (.slice ko x1.1.length kc) := (BW5.out.cell (p := ⟨b, o + kk * 4, none⟩) cbb).trans d0; have c1 : w5.cell? ⟨b, o + kk * 4 + 1, none⟩ = some (.int .u64 x1.2.1) := (BW5.out.cell (p := ⟨b, o + kk * 4 + 1, none⟩) cbb).trans d1; have c2 : w5.cell? ⟨b, o + kk * 4 + 2, none⟩ = some (.bool x1.2.2.1) := (BW5.out.cell (p := ⟨b, o + kk * 4 + 2, none⟩) cbb).trans d2; have c3 : w5.cell? ⟨b, o + kk * 4 + 3, none⟩ = some (.slice vo x1.2.2.2.length vc) := (BW5.out.cell (p := ⟨b, o + kk * 4 + 3, none⟩) cbb).trans d3; have zb5 : b < w5.heap.size := Nat.lt_of_lt_of_le cbb BW5.out.size; obtain ⟨v5o, v5c, rfl, -, -, -, -⟩ := own_form O5.out; clear ho5 hb5)
          go_roundw
          case rel => exact ⟨j + 1, by omega, by have := HKK.out; go_num, O5.out, Lib.hid (by rw [HBF.out]; exact HKV.out), B5.out, Lib.hid (by rw [HBF.out]; exact hrg.out.append R16.out)⟩
          case measure =>
            have := HKK.out
            simp [intOf] <;> omega
        · have hje : j = blk.length := by omega
          subst hje
          rw [List.take_length] at hbv hav hrg
          have hbl9 : (bodyF blk).1.length ≤ 66000 := (HALL.out blk (List.mem_of_getElem? HBK.out)).1
          have hll9 : (bodyF blk).2.length ≤ 256 := (HALL.out blk (List.mem_of_getElem? HBK.out)).2.1
          have hbn9 : blk.length ≤ 65536 := (HALL.out blk (List.mem_of_getElem? HBK.out)).2.2
          have hdl9 := HDL.out
          have hfl9 := frame_le (k := 68) (l := (bodyF blk).1) (by omega)
          have R0 : Hid (R3 w wr _ _ _ _ _ _ _ D) := Lib.hid (R3.below ⟨h8.out, h10.out, h9.out, hap.out, hb.out⟩ hb3.out)
          have HPU := Lib.hid (put_any w.heap.size _ _ (doneF (D.take n)).1 (bodyF blk).1 68 wr (by omega) R0.out.o8 (IsB.of_own hbv.out hrg.out) (by omega) (by omega) R0.out.bel.size)
          have q0 : ¬ ((at0 + blk.length : Nat) : Int) < (at0 : Int) + (blk.length : Int) := by omega
          have e1 : ((at0 + blk.length : Nat) : Int) = (at0 : Int) + (blk.length : Int) := by omega
          rw [e1]
          have q1 : ¬ (at0 : Int) + (blk.length : Int) < (at0 : Int) + (blk.length : Int) := by omega
          clear e1
          go_wp2_with fail
          refine HPU.out.mono ?_
          unfold GrowP
          rintro e w5 ⟨v8', rfl, ho8, c8, k8⟩
          rw [List.length_append] at ho8
          obtain ⟨y8o, y8c, rfl, -, -, -, -⟩ := own_form ho8
          have R1 := Lib.hid (R0.out.grow8 ho8 c8 k8)
          clear ho8 c8 k8 HPU
          have HCN : Hid ((D.map fun b => Value.int .i64 b.length)[n]? = some (.int .i64 blk.length)) := Lib.hid (by rw [List.getElem?_map, HBK.out]; rfl)
          have HSZ9 : Hid ((numN D.length ++ (doneF (D.take n)).2 ++ numN (doneF (D.take n)).1.length ++ numN (frameF 68 (bodyF blk).1).length ++ numN blk.length ++ (numN (bodyF blk).2.length ++ (bodyF blk).2)).length ≤ 70000000000) := Lib.hid (by
            have n1 := numN_len10 (n := (doneF (D.take n)).1.length) (by omega)
            have n2 := numN_len10 (n := (frameF 68 (bodyF blk).1).length) (by omega)
            have n3 := numN_len10 (n := blk.length) (by omega)
            have n4 := numN_len10 (n := (bodyF blk).2.length) (by omega)
            have n5 := numN_len10 (n := D.length) (by omega)
            simp only [List.length_append]
            omega)
          have u1 := IntWalk.u64_in ((doneF (D.take n)).1.length : Int) (by omega)
          have u2 : ((doneF (D.take n)).1.length : Int) + ((frameF 68 (bodyF blk).1).length : Int) - ((doneF (D.take n)).1.length : Int) = ((frameF 68 (bodyF blk).1).length : Int) := by omega
          have u3 := IntWalk.i64_in ((frameF 68 (bodyF blk).1).length : Int) (by omega)
          have u4 := IntWalk.u64_in ((frameF 68 (bodyF blk).1).length : Int) (by omega)
          have u5 := IntWalk.u64_in (blk.length : Int) (by omega)
          go_wp2_with fail
          refine (rNumber_any (doneF (D.take n)).1.length _ (by omega)).mono ?_
          unfold RNumPost
          rintro e w6 ⟨m1, rfl, ho, hb9⟩
          have M1 := Lib.hid (IsB.of_own ho (numN_rng _))
          have R1b := Lib.hid (R1.out.below hb9)
          obtain ⟨m1o, m1c, rfl, -, -, -, -⟩ := own_form ho
          clear ho hb9
          go_wp2_with (at_builtin; refine wpList_append_bytes' (w := w6) (base := w.heap.size) (.tmp 72) (.tmp 73) _ rfl rfl i0 _ Try.underlying25 HI.out HZ0.out HZ1.out HZ2.out rfl _ (numN D.length ++ (doneF (D.take n)).2) (numN (doneF (D.take n)).1.length) rfl rfl R1b.out.o10 M1.out (by have := HSZ9.out; simp only [List.length_append] at this ⊢; omega) R1b.out.bel.size ?_; intro z1 w7 ho hg hk; obtain ⟨z1o, z1c, rfl, -, -, -, -⟩ := own_form ho; have Q1 := Lib.hid (R1b.out.grow10 ho (Chg.of_grown hg (fun b _ e => e)) (hk.imp_right fun e => ⟨_, e, Nat.le_refl _⟩)); clear ho hg hk; have cc1 := own_cell' Q1.out.o9 HCN.out; have cl1 : cg < w7.heap.size := World.block_lt_of_cell? w7 ⟨cg, n, none⟩ cc1)
          refine (rNumber_any (frameF 68 (bodyF blk).1).length _ (by omega)).mono ?_
          unfold RNumPost
          rintro e w8 ⟨m2, rfl, ho, hb9⟩
          have M2 := Lib.hid (IsB.of_own ho (numN_rng _))
          have R2b := Lib.hid (Q1.out.below hb9)
          obtain ⟨m2o, m2c, rfl, -, -, -, -⟩ := own_form ho
          clear ho hb9
          go_wp2_with (at_builtin; refine wpList_append_bytes' (w := w8) (base := w.heap.size) (.tmp 81) (.tmp 82) _ rfl rfl i0 _ Try.underlying25 HI.out HZ0.out HZ1.out HZ2.out rfl _ (numN D.length ++ (doneF (D.take n)).2 ++ numN (doneF (D.take n)).1.length) (numN (frameF 68 (bodyF blk).1).length) rfl rfl R2b.out.o10 M2.out (by have := HSZ9.out; simp only [List.length_append] at this ⊢; omega) R2b.out.bel.size ?_; intro z2 w9 ho hg hk; obtain ⟨z2o, z2c, rfl, -, -, -, -⟩ := own_form ho; have Q2 := Lib.hid (R2b.out.grow10 ho (Chg.of_grown hg (fun b _ e => e)) (hk.imp_right fun e => ⟨_, e, Nat.le_refl _⟩)); clear ho hg hk; have cc2 := own_cell' Q2.out.o9 HCN.out; have cl2 : cg < w9.heap.size := World.block_lt_of_cell? w9 ⟨cg, n, none⟩ cc2)
          refine (rNumber_any blk.length _ (by omega)).mono ?_
          unfold RNumPost
          rintro e w10 ⟨m3, rfl, ho, hb9⟩
          have M3 := Lib.hid (IsB.of_own ho (numN_rng _))
          have R3b := Lib.hid (Q2.out.below hb9)
          obtain ⟨m3o, m3c, rfl, -, -, -, -⟩ := own_form ho
          clear ho hb9
          go_wp2_with (at_builtin; refine wpList_append_bytes' (w := w10) (base := w.heap.size) (.tmp 90) (.tmp 91) _ rfl rfl i0 _ Try.underlying25 HI.out HZ0.out HZ1.out HZ2.out rfl _ (numN D.length ++ (doneF (D.take n)).2 ++ numN (doneF (D.take n)).1.length ++ numN (frameF 68 (bodyF blk).1).length) (numN blk.length) rfl rfl R3b.out.o10 M3.out (by have := HSZ9.out; simp only [List.length_append] at this ⊢; omega) R3b.out.bel.size ?_; intro z3 w11 ho hg hk; obtain ⟨z3o, z3c, rfl, -, -, -, -⟩ := own_form ho; have Q3 := Lib.hid (R3b.out.grow10 ho (Chg.of_grown hg (fun b _ e => e)) (hk.imp_right fun e => ⟨_, e, Nat.le_refl _⟩)); clear ho hg hk; have cc3 := own_cell' Q3.out.o9 HCN.out; have cl3 : cg < w11.heap.size := World.block_lt_of_cell? w11 ⟨cg, n, none⟩ cc3)
          refine (rText_ok _ (bodyF blk).2 _ (hav.out.below Q3.out.bel) (by omega)).mono ?_
          unfold TextPost
          rintro e w12 ⟨m4, rfl, ho, hb9⟩
          have M4 := Lib.hid (IsB.of_own ho ((numN_rng _).append hav.out.rng))
          have R4b := Lib.hid (Q3.out.below hb9)
          rw [List.length_append] at ho
          obtain ⟨m4o, m4c, rfl, -, -, -, -⟩ := own_form ho
          clear ho hb9
          go_wp2_with (at_builtin; refine wpList_append_bytes' (w := w12) (base := w.heap.size) (.tmp 98) (.tmp 99) _ rfl rfl i0 _ Try.underlying25 HI.out HZ0.out HZ1.out HZ2.out rfl _ (numN D.length ++ (doneF (D.take n)).2 ++ numN (doneF (D.take n)).1.length ++ numN (frameF 68 (bodyF blk).1).length ++ numN blk.length) ((numN (bodyF blk).2.length ++ (bodyF blk).2)) rfl rfl R4b.out.o10 M4.out (by have := HSZ9.out; simp only [List.length_append] at this ⊢; omega) R4b.out.bel.size ?_; intro z4 w13 ho hg hk; rw [List.length_append] at ho; obtain ⟨z4o, z4c, rfl, -, -, -, -⟩ := own_form ho; have Q4 := Lib.hid (R4b.out.grow10 ho (Chg.of_grown hg (fun b _ e => e)) (hk.imp_right fun e => ⟨_, e, Nat.le_refl _⟩)); clear ho hg hk; have cc4 := own_cell' Q4.out.o9 HCN.out; have cl4 : cg < w13.heap.size := World.block_lt_of_cell? w13 ⟨cg, n, none⟩ cc4)
          go_roundw
          case rel =>
            have h8' := Q4.out.o8
            have h10' := Q4.out.o10
            refine ⟨n + 1, by omega, by go_num, by rw [HAT.out]; go_num, ?_, ?_, Q4.out.ap, Q4.out.o9, Q4.out.bel⟩
            · rw [HDN.out]
              refine Lib.hid ?_
              simpa [blkF] using h8'
            · rw [HDN.out]
              refine Lib.hid ?_
              simpa [blkF, Nat.add_assoc, List.append_assoc] using h10'
          case measure => simp [intOf] <;> omega
    · have hne : n = D.length := by omega
      subst hne
      rw [List.take_length] at h8 h10
      obtain ⟨v8o, v8c, rfl, -, -, -, -⟩ := own_form h8.out
      obtain ⟨v10o, v10c, rfl, -, -, -, -⟩ := own_form h10.out
      have R0 : Hid (R3 w wr _ _ _ _ _ _ _ D) := Lib.hid ⟨h8.out, h10.out, h9.out, hap.out, hb.out⟩
      have p1 : ¬ ((D.length : Nat) : Int) < D.length := by omega
      have hix : (idxF D).length = (numN D.length).length + (doneF D).2.length := by unfold idxF; rw [List.length_append]
      have HIX := Lib.hid hix
      clear h8 h10 h9 hap hnl hn
      by_cases hbig : 2097152 < (numN D.length).length + (doneF D).2.length
      · have q1 : (2097152 : Int) < ((numN D.length).length : Int) + ((doneF D).2.length : Int) := by omega
        clear hix
        go_wp2_with fail
        refine bodyPost_ret (v := .tuple #[.slice none 0 0, .bool false]) (by first | (simp [results, Try.results31, go_sem]; done) | (simp [results, Try.results31, go_sem]; go_simp)) rfl ⟨hb.out, .inl ⟨by rw [HIX.out]; exact hbig, rfl⟩⟩
      · have q1 : ¬ (2097152 : Int) < ((numN D.length).length : Int) + ((doneF D).2.length : Int) := by omega
        have hDL : (doneF D).1.length ≤ 4400000000 ∧ (doneF D).2.length ≤ 30000000 := by
          have h1 := done_le D ([], []) (fun b hb => HALL.out b hb) (by first | (simp; done) | (simp; omega)) hdl
          simp only [List.length_nil] at h1
          unfold doneF
          omega
        have hRD := doneF_rng (d := D) (fun b hb x hx => isEs_rng HL.out x (by rw [← HFL.out]; exact List.mem_flatten.2 ⟨b, hb, hx⟩))
        have HRD := Lib.hid hRD
        have hkl : (keysF l).length ≤ 65536 := by have := keys_le l []; simp only [List.length_nil] at this; unfold keysF; omega
        have hqq : (1 : Int) ≤ (pn : Int) ∧ (pn : Int) ≤ 30 := by omega
        have hmk := make_len (ls := keysF l) hqq hkl
        have HMR := Lib.hid (make_rng (ls := keysF l) hqq)
        have hf1 := frame_le (k := 70) (l := Bloom.makeF (keysF l) (pn : Int)) (by omega)
        have u1 := IntWalk.u64_in ((doneF D).1.length : Int) (by omega)
        clear hix hRD
        go_wp2_with fail
        refine (HKY.out _ hb.out).mono ?_
        unfold KeysP
        rintro e w3 ⟨vk, rfl, hbk, hb3⟩
        obtain ⟨vko, vkc, rfl, -⟩ := hbk.form
        have R1 := Lib.hid (R0.out.below hb3)
        have HBK := Lib.hid hbk
        clear hbk hb3
        go_wp2_with fail
        refine (Bloom.rMake_ok _ (keysF l) pn w3 HBK.out ⟨hqq, hkl⟩).mono ?_
        unfold Bloom.MakePost
        rintro e w4 ⟨fv, rfl, hof, hb4⟩
        obtain ⟨fvo, fvc, rfl, -, -, -, -⟩ := own_form hof
        have R2 := Lib.hid (R1.out.below hb4)
        have HPU := Lib.hid (put_any w.heap.size _ _ (doneF D).1 (Bloom.makeF (keysF l) (pn : Int)) 70 w4 (by omega) R2.out.o8 (IsB.of_own hof HMR.out) (by omega) (by omega) R2.out.bel.size)
        clear hof hb4
        go_wp2_with fail
        refine HPU.out.mono ?_
        unfold GrowP
        rintro e w5 ⟨v8', rfl, ho8, c8, k8⟩
        rw [List.length_append] at ho8
        obtain ⟨y8o, y8c, rfl, -, -, -, -⟩ := own_form ho8
        have R3' := Lib.hid (R2.out.grow8 ho8 c8 k8)
        clear ho8 c8 k8 HPU
        have hlen1 : (out1 l D pn).length = (doneF D).1.length + (frameF 70 (Bloom.makeF (keysF l) (pn : Int))).length := by unfold out1; rw [List.length_append]
        have HPU2 := Lib.hid (put_any w.heap.size (.slice y8o ((doneF D).1.length + (frameF 70 (Bloom.makeF (keysF l) (pn : Int))).length) y8c) (.slice v10o ((numN D.length).length + (doneF D).2.length) v10c) (out1 l D pn) (idxF D) 73 w5 (by omega) (by rw [hlen1]; exact R3'.out.o8) (IsB.of_own R3'.out.o10 ((numN_rng _).append HRD.out.2)) (by rw [hlen1]; omega) (by rw [HIX.out]; omega) R3'.out.bel.size)
        have u2 := IntWalk.u64_in (((doneF D).1.length : Int) + ((frameF 70 (Bloom.makeF (keysF l) (pn : Int))).length : Int)) (by omega)
        have HL1 := Lib.hid hlen1
        clear hlen1
        go_wp2_with fail
        refine HPU2.out.mono ?_
        unfold GrowP
        rintro e w6 ⟨v8'', rfl, ho8, c8, k8⟩
        rw [List.length_append, HL1.out] at ho8
        obtain ⟨y2o, y2c, rfl, -, -, -, -⟩ := own_form ho8
        have R4 := Lib.hid (R3'.out.grow8 (v8 := .slice y8o ((doneF D).1.length + (frameF 70 (Bloom.makeF (keysF l) (pn : Int))).length) y8c) (by simpa only [HL1.out] using ho8) c8 k8)
        clear ho8 c8 k8 HPU2
        have G6 : Hid (Below w6.heap.size w6 w6) := Lib.hid (Below.refl _ _)
        have u3 := IntWalk.u64_in (l.length : Int) (by omega)
        have u4 := IntWalk.u64_in (bn : Int) (by omega)
        have u5 := IntWalk.u64_in (pn : Int) (by omega)
        go_wp2_with fail
        refine (eight_any (doneF D).1.length _ (by omega)).mono ?_
        unfold FullP
        rintro e w7 ⟨a1, rfl, ho, hb9⟩
        have E1 := Lib.hid ho
        have G7 : Hid (Below w6.heap.size w6 w7) := Lib.hid (bel_call G6.out hb9)
        have HBS : Hid (Below w6.heap.size w6 w7) := Lib.hid hb9
        clear ho hb9
        rw [hiB_len] at E1
        go_wp2_with fail
        refine (eight_any ((doneF D).1.length + (frameF 70 (Bloom.makeF (keysF l) (pn : Int))).length) _ (by omega)).mono ?_
        unfold FullP
        rintro e w8 ⟨a2, rfl, ho, hb9⟩
        have E2 := Lib.hid ho
        have G8 : Hid (Below w6.heap.size w6 w8) := Lib.hid (bel_call G7.out hb9)
        have HBS : Hid (Below w7.heap.size w7 w8) := Lib.hid hb9
        clear ho hb9
        rw [hiB_len] at E2
        replace E1 := Lib.hid (E1.out.below HBS.out)
        go_wp2_with (at_builtin; refine wpList_append_clip (w := w8) (l := hiB (doneF D).1.length 8) (.tmp 133) (.tmp 134) _ rfl rfl i0 Try.underlying25 HI.out HZ0.out HZ1.out HZ2.out _ rfl rfl (by rw [hiB_len]; exact E1.out) (E2.out.isB) (by rw [hiB_len]; omega) (by simp only [hiB_len]; omega) ?_; intro f1 w9 ho hg; have F1 : Hid (w9.ownsRow w6.heap.size 5 1 f1 16 ((hiB (doneF D).1.length 8 ++ hiB ((doneF D).1.length + (frameF 70 (Bloom.makeF (keysF l) (pn : Int))).length) 8).map (Value.int .u8))) := Lib.hid (by have h := own_mono ho G8.out.size; simpa only [hiB_len] using h); have G9 : Hid (Below w6.heap.size w6 w9) := Lib.hid (bel_call G8.out (below_own hg (Nat.le_refl _) (fun k hk => by cases hk))); obtain ⟨f1o, f1c, rfl, -, -, -, -⟩ := own_form F1.out; clear ho hg)
        refine (eight_any l.length _ (by omega)).mono ?_
        unfold FullP
        rintro e w10 ⟨a3, rfl, ho, hb9⟩
        have E3 := Lib.hid ho
        have G10 : Hid (Below w6.heap.size w6 w10) := Lib.hid (bel_call G9.out hb9)
        have HBS : Hid (Below w9.heap.size w9 w10) := Lib.hid hb9
        clear ho hb9
        rw [hiB_len] at E3
        replace F1 := Lib.hid (own_below F1.out HBS.out)
        go_wp2_with (at_builtin; refine wpList_append_bytes (w := w10) (base := w6.heap.size) (.tmp 140) (.tmp 141) _ rfl rfl i0 _ Try.underlying25 HI.out HZ0.out HZ1.out HZ2.out rfl _ (hiB (doneF D).1.length 8 ++ hiB ((doneF D).1.length + (frameF 70 (Bloom.makeF (keysF l) (pn : Int))).length) 8) (hiB l.length 8) rfl rfl F1.out E3.out.isB (by simp only [hiB_len, List.length_cons, List.length_nil]; omega) G10.out.size ?_; intro f2 w11 ho hb9; have F2 : Hid (w11.ownsRow w6.heap.size 5 1 f2 24 ((hiB (doneF D).1.length 8 ++ hiB ((doneF D).1.length + (frameF 70 (Bloom.makeF (keysF l) (pn : Int))).length) 8 ++ hiB l.length 8).map (Value.int .u8))) := Lib.hid (by simpa only [hiB_len, List.length_cons, List.length_nil] using ho); have G11 : Hid (Below w6.heap.size w6 w11) := Lib.hid (G10.out.trans hb9); obtain ⟨f2o, f2c, rfl, -, -, -, -⟩ := own_form F2.out; clear ho hb9)
        refine (eight_any bn _ (by omega)).mono ?_
        unfold FullP
        rintro e w12 ⟨a4, rfl, ho, hb9⟩
        have E4 := Lib.hid ho
        have G12 : Hid (Below w6.heap.size w6 w12) := Lib.hid (bel_call G11.out hb9)
        have HBS : Hid (Below w11.heap.size w11 w12) := Lib.hid hb9
        clear ho hb9
        rw [hiB_len] at E4
        rw [hiB_len bn 8]
        replace F2 := Lib.hid (own_below F2.out HBS.out)
        go_wp2_with (at_builtin; refine wpList_append_bytes (w := w12) (base := w6.heap.size) (.tmp 146) (.tmp 148) _ rfl rfl i0 _ Try.underlying25 HI.out HZ0.out HZ1.out HZ2.out rfl _ (hiB (doneF D).1.length 8 ++ hiB ((doneF D).1.length + (frameF 70 (Bloom.makeF (keysF l) (pn : Int))).length) 8 ++ hiB l.length 8) (hiB bn 4) rfl rfl F2.out (by have h := isB_suf (n := 4) (k := 4) (cap' := 4) E4.out.isB (by rw [hiB_len]; omega) (by rw [hiB_len]) rfl (.inr rfl); rw [hi_drop] at h; exact h) (by simp only [hiB_len, List.length_cons, List.length_nil]; omega) G12.out.size ?_; intro f3 w13 ho hb9; have F3 : Hid (w13.ownsRow w6.heap.size 5 1 f3 28 ((hiB (doneF D).1.length 8 ++ hiB ((doneF D).1.length + (frameF 70 (Bloom.makeF (keysF l) (pn : Int))).length) 8 ++ hiB l.length 8 ++ hiB bn 4).map (Value.int .u8))) := Lib.hid (by simpa only [hiB_len, List.length_cons, List.length_nil] using ho); have G13 : Hid (Below w6.heap.size w6 w13) := Lib.hid (G12.out.trans hb9); obtain ⟨f3o, f3c, rfl, -, -, -, -⟩ := own_form F3.out; clear ho hb9)
        refine (eight_any pn _ (by omega)).mono ?_
        unfold FullP
        rintro e w14 ⟨a5, rfl, ho, hb9⟩
        have E5 := Lib.hid ho
        have G14 : Hid (Below w6.heap.size w6 w14) := Lib.hid (bel_call G13.out hb9)
        have HBS : Hid (Below w13.heap.size w13 w14) := Lib.hid hb9
        clear ho hb9
        rw [hiB_len] at E5
        rw [hiB_len pn 8]
        replace F3 := Lib.hid (own_below F3.out HBS.out)
        go_wp2_with first
          | (at_builtin; refine wpList_append_bytes (w := w14) (base := w6.heap.size) (.tmp 153) (.tmp 155) _ rfl rfl i0 _ Try.underlying25 HI.out HZ0.out HZ1.out HZ2.out rfl _ (hiB (doneF D).1.length 8 ++ hiB ((doneF D).1.length + (frameF 70 (Bloom.makeF (keysF l) (pn : Int))).length) 8 ++ hiB l.length 8 ++ hiB bn 4) (hiB pn 4) rfl rfl F3.out (by have h := isB_suf (n := 4) (k := 4) (cap' := 4) E5.out.isB (by rw [hiB_len]; omega) (by rw [hiB_len]) rfl (.inr rfl); rw [hi_drop] at h; exact h) (by simp only [hiB_len, List.length_cons, List.length_nil]; omega) G14.out.size ?_; intro f4 w15 ho hb9; have F4 : Hid (w15.ownsRow w6.heap.size 5 1 f4 32 ((hiB (doneF D).1.length 8 ++ hiB ((doneF D).1.length + (frameF 70 (Bloom.makeF (keysF l) (pn : Int))).length) 8 ++ hiB l.length 8 ++ hiB bn 4 ++ hiB pn 4).map (Value.int .u8))) := Lib.hid (by simpa only [hiB_len, List.length_cons, List.length_nil] using ho); have G15 : Hid (Below w6.heap.size w6 w15) := Lib.hid (G14.out.trans hb9); obtain ⟨f4o, f4c, rfl, -, -, -, -⟩ := own_form F4.out; clear ho hb9)
          | (at_builtin; refine wpList_append_bytes (w := w15.alloc (.cells #[.int .u8 67, .int .u8 79, .int .u8 82, .int .u8 77] 5)) (base := w6.heap.size) (.tmp 157) (.tmp 158) _ rfl rfl i0 _ Try.underlying25 HI.out HZ0.out HZ1.out HZ2.out rfl _ (hiB (doneF D).1.length 8 ++ hiB ((doneF D).1.length + (frameF 70 (Bloom.makeF (keysF l) (pn : Int))).length) 8 ++ hiB l.length 8 ++ hiB bn 4 ++ hiB pn 4) [67, 79, 82, 77] rfl rfl (F4.out.alloc _) (corm w15) (by simp) (by have := G15.out.size; simp; omega) ?_; intro f5 w16 ho hb9; have F5 : Hid (w16.ownsRow w6.heap.size 5 1 f5 36 ((hiB (doneF D).1.length 8 ++ hiB ((doneF D).1.length + (frameF 70 (Bloom.makeF (keysF l) (pn : Int))).length) 8 ++ hiB l.length 8 ++ hiB bn 4 ++ hiB pn 4 ++ [67, 79, 82, 77]).map (Value.int .u8))) := Lib.hid (by simpa using ho); have G16 : Hid (Below w6.heap.size w6 w16) := Lib.hid ((bel_alloc G15.out _).trans hb9); obtain ⟨f5o, f5c, rfl, -, -, -, -⟩ := own_form F5.out; clear ho hb9)
        have HFR : Hid (Rng (hiB (doneF D).1.length 8 ++ hiB ((doneF D).1.length + (frameF 70 (Bloom.makeF (keysF l) (pn : Int))).length) 8 ++ hiB l.length 8 ++ hiB bn 4 ++ hiB pn 4 ++ [67, 79, 82, 77])) := Lib.hid ((((((hiB_rng _ _).append (hiB_rng _ _)).append (hiB_rng _ _)).append (hiB_rng _ _)).append (hiB_rng _ _)).append (fun y hy => by simp at hy; omega))
        refine (rSum_any _ _ _ (IsB.of_own F5.out HFR.out)).mono ?_
        rintro e w17 ⟨rfl, rfl⟩
        have HU32 : Hid (U32 (sumF (hiB (doneF D).1.length 8 ++ hiB ((doneF D).1.length + (frameF 70 (Bloom.makeF (keysF l) (pn : Int))).length) 8 ++ hiB l.length 8 ++ hiB bn 4 ++ hiB pn 4 ++ [67, 79, 82, 77]))) := Lib.hid (bits_u32_rng _ _ _)
        go_wp2_with fail
        refine (four_any _ _ HU32.out).mono ?_
        unfold SumsPost
        rintro e w18 ⟨v4, rfl, ho, hb9⟩
        have N4 := Lib.hid (IsB.of_own (n := 4) ho (le4_rng _))
        have G18 : Hid (Below w6.heap.size w6 w18) := Lib.hid (bel_call G16.out hb9)
        have F5' := Lib.hid (own_below F5.out hb9)
        obtain ⟨v4o, v4c, rfl, -, -, -, -⟩ := own_form ho
        clear ho hb9
        have hf2 := frame_le (k := 73) (l := idxF D) (by rw [HIX.out]; omega)
        have hi9 := HIX.out
        have HFF : Hid (((hiB (doneF D).1.length 8 ++ hiB ((doneF D).1.length + (frameF 70 (Bloom.makeF (keysF l) (pn : Int))).length) 8 ++ hiB l.length 8 ++ hiB bn 4 ++ hiB pn 4 ++ [67, 79, 82, 77]) ++ le4 (sumF (hiB (doneF D).1.length 8 ++ hiB ((doneF D).1.length + (frameF 70 (Bloom.makeF (keysF l) (pn : Int))).length) 8 ++ hiB l.length 8 ++ hiB bn 4 ++ hiB pn 4 ++ [67, 79, 82, 77]))).length = 40) := Lib.hid (by simp [le4, hiB_len])
        have HN7 : Hid ((doneF D).1.length + (frameF 70 (Bloom.makeF (keysF l) (pn : Int))).length + (frameF 73 (idxF D)).length + ((hiB (doneF D).1.length 8 ++ hiB ((doneF D).1.length + (frameF 70 (Bloom.makeF (keysF l) (pn : Int))).length) 8 ++ hiB l.length 8 ++ hiB bn 4 ++ hiB pn 4 ++ [67, 79, 82, 77]) ++ le4 (sumF (hiB (doneF D).1.length 8 ++ hiB ((doneF D).1.length + (frameF 70 (Bloom.makeF (keysF l) (pn : Int))).length) 8 ++ hiB l.length 8 ++ hiB bn 4 ++ hiB pn 4 ++ [67, 79, 82, 77]))).length ≤ 140737488355328) := Lib.hid (by
          rw [HFF.out]
          omega)
        go_wp2_with first
          | (at_builtin; refine wpList_append_bytes (w := w18) (base := w6.heap.size) (.tmp 164) (.tmp 165) _ rfl rfl i0 _ Try.underlying25 HI.out HZ0.out HZ1.out HZ2.out rfl _ (hiB (doneF D).1.length 8 ++ hiB ((doneF D).1.length + (frameF 70 (Bloom.makeF (keysF l) (pn : Int))).length) 8 ++ hiB l.length 8 ++ hiB bn 4 ++ hiB pn 4 ++ [67, 79, 82, 77]) (le4 (sumF (hiB (doneF D).1.length 8 ++ hiB ((doneF D).1.length + (frameF 70 (Bloom.makeF (keysF l) (pn : Int))).length) 8 ++ hiB l.length 8 ++ hiB bn 4 ++ hiB pn 4 ++ [67, 79, 82, 77]))) rfl rfl F5'.out N4.out (by simp [le4]) G18.out.size ?_; intro f6 w19 ho hb9; have F6 : Hid (w19.ownsRow w6.heap.size 5 1 f6 40 (((hiB (doneF D).1.length 8 ++ hiB ((doneF D).1.length + (frameF 70 (Bloom.makeF (keysF l) (pn : Int))).length) 8 ++ hiB l.length 8 ++ hiB bn 4 ++ hiB pn 4 ++ [67, 79, 82, 77]) ++ le4 (sumF (hiB (doneF D).1.length 8 ++ hiB ((doneF D).1.length + (frameF 70 (Bloom.makeF (keysF l) (pn : Int))).length) 8 ++ hiB l.length 8 ++ hiB bn 4 ++ hiB pn 4 ++ [67, 79, 82, 77]))).map (Value.int .u8))) := Lib.hid (by simpa [le4] using ho); have G19 : Hid (Below w6.heap.size w6 w19) := Lib.hid (G18.out.trans hb9); obtain ⟨f6o, f6c, rfl, -, -, -, -⟩ := own_form F6.out; have I6 := Lib.hid (IsB.of_own F6.out (HFR.out.append (le4_rng _))); have R5 := Lib.hid (R4.out.below G19.out); clear ho hb9)
          | (at_builtin; refine wpList_append_bytes (w := w19) (base := w.heap.size) (.tmp 167) (.tmp 168) _ rfl rfl i0 _ Try.underlying25 HI.out HZ0.out HZ1.out HZ2.out rfl _ (out1 l D pn ++ frameF 73 (idxF D)) ((hiB (doneF D).1.length 8 ++ hiB ((doneF D).1.length + (frameF 70 (Bloom.makeF (keysF l) (pn : Int))).length) 8 ++ hiB l.length 8 ++ hiB bn 4 ++ hiB pn 4 ++ [67, 79, 82, 77]) ++ le4 (sumF (hiB (doneF D).1.length 8 ++ hiB ((doneF D).1.length + (frameF 70 (Bloom.makeF (keysF l) (pn : Int))).length) 8 ++ hiB l.length 8 ++ hiB bn 4 ++ hiB pn 4 ++ [67, 79, 82, 77]))) rfl rfl R5.out.o8 I6.out HN7.out R5.out.bel.size ?_; intro f7 w20 ho hb9; have F7 := Lib.hid ho; rw [HFF.out] at F7; have G20 : Hid (Below w.heap.size w w20) := Lib.hid (R5.out.bel.trans hb9); obtain ⟨f7o, f7c, rfl, -, -, -, -⟩ := own_form F7.out; clear ho hb9)
        have HTB : Hid (tableF l D bn pn = (out1 l D pn ++ frameF 73 (idxF D)) ++ ((hiB (doneF D).1.length 8 ++ hiB ((doneF D).1.length + (frameF 70 (Bloom.makeF (keysF l) (pn : Int))).length) 8 ++ hiB l.length 8 ++ hiB bn 4 ++ hiB pn 4 ++ [67, 79, 82, 77]) ++ le4 (sumF (hiB (doneF D).1.length 8 ++ hiB ((doneF D).1.length + (frameF 70 (Bloom.makeF (keysF l) (pn : Int))).length) 8 ++ hiB l.length 8 ++ hiB bn 4 ++ hiB pn 4 ++ [67, 79, 82, 77])))) := Lib.hid (by
          unfold tableF out2 footT
          rw [HL1.out])
        have HR7 : Hid (Rng (tableF l D bn pn)) := Lib.hid (by
          rw [HTB.out]
          refine ((HRD.out.1.append (frame_rng (by omega) HMR.out)).append (frame_rng (by omega) ((numN_rng _).append HRD.out.2))).append (HFR.out.append (le4_rng _)))
        refine bodyPost_ret (v := .tuple #[.slice f7o ((doneF D).1.length + (frameF 70 (Bloom.makeF (keysF l) (pn : Int))).length + (frameF 73 (idxF D)).length + 40) f7c, .bool true]) (by first | (simp [results, Try.results31, go_sem]; done) | (simp [results, Try.results31, go_sem]; go_simp)) rfl ⟨G20.out, .inr ⟨by rw [HIX.out]; omega, _, rfl, OwnS.of_own (by rw [HTB.out]; exact F7.out) HR7.out⟩⟩
end Ss
end Go.Proofs.Ytmojbamloanleaa
