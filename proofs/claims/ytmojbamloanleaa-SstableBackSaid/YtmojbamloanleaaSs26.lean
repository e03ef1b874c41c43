/- sstable: Open (walk). -/
import Derived.Test.YtmojbamloanleaaSs25
set_option linter.unusedVariables false
set_option linter.unusedSimpArgs false
namespace Go.Proofs.Ytmojbamloanleaa
open Go.RowKit
namespace Ss
open Mt Codec
/-- what Open answers -/
def OpenP (b : List Int) (w : World) (e : Ending) (w' : World) : Prop :=
  match openF b with
  | none => e = .returned (.tuple #[.pointer none, .int .i64 44]) ∧ Below w.heap.size w w'
  | some (bs, at_) => ∃ tb bv blv fv av rows, e = .returned (.tuple #[.pointer (some ⟨tb, 0, none⟩), .int .i64 0]) ∧ rows.map (·.1) = bs ∧ OpI w.heap.size w' tb bv blv fv av (allB bs).length 0 b (takeFrameF (b.drop at_)).2.1 rows (allB bs) ∧ Below w.heap.size w w'
theorem openP_no {b : List Int} {w w' : World} (h : openF b = none) (hb : Below w.heap.size w w') : OpenP b w (.returned (.tuple #[.pointer none, .int .i64 44])) w' := by
  unfold OpenP
  rw [h]
  exact ⟨rfl, hb⟩
theorem OpI.start {w w1 : World} {bv : Value} {b : List Int} (d : Below w.heap.size w w1) (o : OwnS w1 w.heap.size 5 bv b) :
    OpI w.heap.size (w1.alloc (.cells #[bv, .slice none 0 0, .slice none 0 0, .int .i64 0, .int .i64 0] 74)) w1.heap.size bv (.slice none 0 0) (.slice none 0 0) (.slice none 0 0) 0 0 b [] [] [] :=
  ⟨heap_alloc_new w1 _, d.size, o.below ((Below.refl _ w1).alloc (Nat.le_refl _) _), OwnS.none, World.ownsRow_nil _ _ _ _, fun r hr => (by cases hr), ⟨[], rfl, World.ownsRow_nil _ _ _ _, fun r hr => (by cases hr)⟩⟩
section
variable {base tb : Nat} {W W' : World} {bv blv fv av v : Value} {b fil : List Int} {cnt rd : Int} {rows : List BV} {all : List En}
theorem OpI.boxL (h : OpI base W tb bv blv fv av cnt rd b fil rows all) (c : Chg (fun b => blv.ownBlock = some b) W W') : W'.heap[tb]? = some (.cells #[bv, blv, fv, .int .i64 cnt, .int .i64 rd] 74 (0, 0)) :=
  (c.block tb h.lt (fun e => by
    obtain ⟨-, -, c2, hc⟩ := own_typed h.ol tb e
    exact absurd (types_apart h.box hc) (by decide))).trans h.box
theorem OpI.esL (h : OpI base W tb bv blv fv av cnt rd b fil rows all) (c : Chg (fun b => blv.ownBlock = some b) W W') (u : Value) {v : Value} {es : List En} (he : OwnEs W base v es) : OwnEs (W'.setCell ⟨tb, 1, none⟩ u) base v es := by
  have h1 : OwnEs W' base v es := he.chg c (fun b cur t hb ht e => by
    obtain ⟨-, -, c2, hc⟩ := own_typed h.ol b e
    have := types_apart hb hc
    rcases ht with rfl | rfl <;> exact absurd this (by decide))
  exact h1.chg (S := fun b => b = tb) ((Chg.refl (fun b => b = tb) W').set (p := ⟨tb, 1, none⟩) (fun _ => rfl) _) (fun b cur t hb ht e => by
    subst e
    have := types_apart hb (h.boxL c)
    rcases ht with rfl | rfl <;> exact absurd this (by decide))
theorem OpI.belL (h : OpI base W tb bv blv fv av cnt rd b fil rows all) (c : Chg (fun b => blv.ownBlock = some b) W W') {w : World} (hw : Below base w W) (u : Value) : Below base w (W'.setCell ⟨tb, 1, none⟩ u) :=
  (hw.trans (c.below (Nat.le_trans h.bw (Nat.le_of_lt h.lt)) (fun b hb e => by have := (h.ol.lt b e).1; omega))).setCell h.bw _
theorem OpI.belA (h : OpI base W tb bv blv fv av cnt rd b fil rows all) (c : Chg (fun b => av.ownBlock = some b) W W') {w : World} (hw : Below base w W) : Below base w W' := by
  obtain ⟨rs, -, ho, -⟩ := h.oa
  exact hw.trans (c.below (Nat.le_trans h.bw (Nat.le_of_lt h.lt)) (fun b hb e => by have := (ho.lt b e).1; omega))
theorem es_app {rs1 rs2 : List EV} {l1 l2 : List En} {u : Value} {n : Nat} (e1 : rs1.map (·.1) = l1) (e2 : rs2.map (·.1) = l2) (o : W.ownsRow base 46 4 av n (rs1.flatMap c4)) (g1 : ∀ r ∈ rs1, GoodE W base r) (g2 : ∀ r ∈ rs2, GoodE W base r)
    (h : W'.ownsRow base 46 4 u (l1.length + l2.length) (rs1.flatMap c4 ++ rs2.flatMap c4)) (k : W.grownBy W' av.ownBlock) : OwnEs W' base u (l1 ++ l2) := by
  refine ⟨rs1 ++ rs2, by rw [List.map_append, e1, e2], by rw [List.length_append, List.flatMap_append]; exact h, fun r hr => ?_⟩
  rcases List.mem_append.1 hr with hr | hr
  · exact (g1 r hr).grown o k
  · exact (g2 r hr).grown o k
end
theorem allB_snoc (rows : List BV) (r : BV) : allB ((rows ++ [r]).map (·.1)) = allB (rows.map (·.1)) ++ r.1.2.2 := by
  unfold allB
  simp
set_option maxRecDepth 100000 in
set_option maxHeartbeats 8000000 in
theorem open_any (b0 : Value) (b : List Int) (w : World) (h : IsB w b0 b) : Calls Try.prog 13 #[b0] w (OpenP b w) := by
  obtain ⟨i0, hi0, hz0, hz1, hz2⟩ := info_parts infoEn
  have HI := Lib.hid hi0; have HZ0 := Lib.hid hz0; have HZ1 := Lib.hid hz1; have HZ2 := Lib.hid hz2
  obtain ⟨i2, hi2, hy0, hy1, hy2⟩ := info_parts infoBk
  have HI2 := Lib.hid hi2; have HY0 := Lib.hid hy0; have HY1 := Lib.hid hy1; have HY2 := Lib.hid hy2
  obtain ⟨bo, bc, rfl, bl1, -, -⟩ := h.form
  have Hb := Lib.hid h
  clear hi0 hz0 hz1 hz2 hi2 hy0 hy1 hy2 h
  by_cases hA : b.length < 40 ∨ 4194304 < b.length
  · have HO : Hid (openF b = none) := Lib.hid (by unfold openF; rw [if_pos hA])
    rcases Nat.lt_or_ge b.length 40 with q | q
    · have q1 : (b.length : Int) < 40 := by omega
      clear hA
      go_enter Try.func13, Try.ntmps13
      go_wp2_with fail
      refine bodyPost_ret (v := .tuple #[.pointer none, .int .i64 44]) (by first | (simp [results, Try.results13, go_sem]; done) | (simp [results, Try.results13, go_sem]; go_simp)) rfl (openP_no HO.out (Below.refl _ w))
    have q1 : ¬ (b.length : Int) < 40 := by omega
    have q2 : (4194304 : Int) < (b.length : Int) := by omega
    clear hA
    go_enter Try.func13, Try.ntmps13
    go_wp2_with fail
    refine bodyPost_ret (v := .tuple #[.pointer none, .int .i64 44]) (by first | (simp [results, Try.results13, go_sem]; done) | (simp [results, Try.results13, go_sem]; go_simp)) rfl (openP_no HO.out (Below.refl _ w))
  have HOA : Hid (openF b = match blocksF b.length b 0 with
      | none => none
      | some (bs, at_) => if codeF (allB bs) (lowF (((b.drop (b.length - 40)).drop 24).take 4)) (lowF (((b.drop (b.length - 40)).drop 28).take 4)) = 0 ∧ tabF (allB bs) (lowF (((b.drop (b.length - 40)).drop 24).take 4)) (lowF (((b.drop (b.length - 40)).drop 28).take 4)) = b then some (bs, at_) else none) := Lib.hid (by
    unfold openF
    rw [if_neg hA]; rfl)
  have HNO : Hid (blocksF b.length b 0 = none → openF b = none) := Lib.hid (fun h => by rw [HOA.out, h])
  have q1 : ¬ (b.length : Int) < 40 := by omega
  have q2 : ¬ (4194304 : Int) < (b.length : Int) := by omega
  have q3 : b.length ≤ 4194304 := by omega
  have q4 : 40 ≤ b.length := by omega
  clear hA
  obtain ⟨g, o, -, rfl, hg, -, -, -, -⟩ := Hb.out.at_ (k := 0) (by omega)
  have HC := Lib.hid (cloneB_any _ bc b w Hb.out (by omega))
  unfold CloneP at HC
  go_enter Try.func13, Try.ntmps13
  go_wp2_with fail
  refine HC.out.mono ?_
  rintro e w1 ⟨vao, vcap, rfl, f1, f2, o1, d1⟩
  have O1 := Lib.hid o1.clip
  have D1 := Lib.hid d1
  clear o1 d1 HC
  go_wp2_with (go_at_call 38; refine (clip_any _ _ _ _ f1 f2).mono ?_; rintro e w9 ⟨rfl, rfl⟩)
  have HS0 := Lib.hid (OpI.start D1.out O1.out)
  have HBL0 : Hid (Below w.heap.size w (w1.alloc (.cells #[.slice vao b.length b.length, .slice none 0 0, .slice none 0 0, .int .i64 0, .int .i64 0] 74))) := Lib.hid (bel_alloc D1.out _)
  obtain ⟨tb, htb⟩ : ∃ tb, w1.heap.size = tb := ⟨_, rfl⟩
  rw [htb] at HS0 ⊢
  generalize (w1.alloc (.cells #[.slice vao b.length b.length, .slice none 0 0, .slice none 0 0, .int .i64 0, .int .i64 0] 74)) = W0 at HS0 HBL0 ⊢
  clear htb f1 f2 O1 D1 w1
  go_loopw [5, 6] (fun av iv wr => ∃ (rows : List BV) (at_ k : Nat) (blv : Value), iv = .int .i64 at_ ∧ Hid (OpI w.heap.size wr tb (.slice vao b.length b.length) blv (.slice none 0 0) av 0 0 b [] rows (allB (rows.map (·.1)))) ∧ Hid (OpJ b (rows.map (·.1)) at_ k) ∧ Hid (Below w.heap.size w wr)) (fun _ iv _ => b.length - (intOf iv).toNat)
  case atStart => exact ⟨[], 0, b.length, _, rfl, HS0, Lib.hid (OpJ.start b), HBL0⟩
  case round =>
    obtain ⟨rows, at_, k, blv, rfl, hop, hj, hbl⟩ := hrel
    by_cases hq : b[at_]? = some 68
    · --M
      have hat := (List.getElem?_eq_some_iff.1 hq).1
      obtain ⟨g', o', x, hao, hlt, hx, hc, -, -⟩ := Hb.out.at_ hat
      cases hao
      have hx68 : x = 68 := by have := hx.out; rw [hq] at this; exact (Option.some.inj this).symm
      subst hx68
      have c0 : wr.cell? ⟨g, o + at_, none⟩ = some (.int .u8 68) := (hbl.out.cell (p := ⟨g, o + at_, none⟩) hlt).trans hc
      have p0 : (at_ : Int) < b.length := by omega
      have p1 : (at_ : Int) ≤ b.length := by omega
      have p2 : (0 : Int) ≤ (at_ : Int) := by omega
      have p3 : (at_ : Int) ≤ bc := by omega
      have p4 : ¬ bc = at_ := by omega
      have HQ := Lib.hid hq
      have HSF : Hid (IsB wr (.slice (some ⟨g, o + at_, none⟩) (b.length - at_) (bc - at_)) (b.drop at_)) := Lib.hid ((isB_suf (ao' := some ⟨g, o + at_, none⟩) (n := at_) (k := b.length - at_) (cap' := bc - at_) Hb.out (by omega) rfl rfl (.inr (by rw [Option.map_some, plain_add']))).below hbl.out)
      have HEN := Lib.hid (entries_any _ (b.drop at_) wr HSF.out (by rw [List.length_drop]; omega) (by have := takeFrame_le (b.drop at_); rw [List.length_drop] at this; omega))
      clear hx hc hq HSF
      go_wp2_with fail
      refine HEN.out.mono ?_
      intro e w2 hq
      unfold EntriesP at hq
      rcases hE : framR (b.drop at_) with _ | ⟨_ | ⟨x, l⟩⟩
      · rw [hE] at hq
        obtain ⟨rfl, hb2⟩ := hq
        have HO := Lib.hid (HNO.out (hj.out.bad HQ.out (.inl hE)))
        have G2 := Lib.hid (bel_call hbl.out hb2)
        clear hb2 hE HEN
        go_wp2_with fail
        refine bodyPost_ret (v := .tuple #[.pointer none, .int .i64 44]) (by first | (simp [results, Try.results13, go_sem]; done) | (simp [results, Try.results13, go_sem]; go_simp)) rfl (openP_no HO.out G2.out)
      · rw [hE] at hq
        obtain ⟨v, rfl, ov, hb2⟩ := hq
        have HO := Lib.hid (HNO.out (hj.out.bad HQ.out (.inr hE)))
        have G2 := Lib.hid (bel_call hbl.out hb2)
        obtain ⟨rs, hrs, ov, -⟩ := ov
        obtain ⟨vo, vc, rfl, -, -, -, -⟩ := own_form ov
        clear hb2 hE HEN ov hrs
        go_wp2_with fail
        refine bodyPost_ret (v := .tuple #[.pointer none, .int .i64 44]) (by first | (simp [results, Try.results13, go_sem]; done) | (simp [results, Try.results13, go_sem]; go_simp)) rfl (openP_no HO.out G2.out)
      · rw [hE] at hq
        obtain ⟨v, rfl, ov, hb2⟩ := hq
        obtain ⟨-, hfn, hfl, hfb⟩ := framR_bd (Hb.out.rng.drop at_) hE
        rw [List.length_drop] at hfb
        rw [hfn]
        have HJ := Lib.hid (hj.out.step Hb.out.rng HQ.out hE)
        generalize hfN : framN (b.drop at_) = fn at hfl hfb HJ ⊢
        have G2 := Lib.hid (bel_call hbl.out hb2)
        have HP2 := Lib.hid (hop.out.below hb2)
        have HES := Lib.hid (show OwnEs w2 w.heap.size v (x :: l) from ⟨ov.choose, ov.choose_spec.1, own_mono ov.choose_spec.2.1 hbl.out.size, fun r hr => ⟨(ov.choose_spec.2.2 r hr).1.mono hbl.out.size, (ov.choose_spec.2.2 r hr).2.1.mono hbl.out.size, (ov.choose_spec.2.2 r hr).2.2⟩⟩)
        obtain ⟨rs, hrs, ov, hgd⟩ := ov
        rw [← hrs, List.length_map] at ov
        have OV := Lib.hid (own_mono ov hbl.out.size)
        have HGD : Hid (∀ r ∈ rs, GoodE w2 w.heap.size r) := Lib.hid (fun r hr => ⟨(hgd r hr).1.mono hbl.out.size, (hgd r hr).2.1.mono hbl.out.size, (hgd r hr).2.2⟩)
        have hrl : rs.length = l.length + 1 := by have := congrArg List.length hrs; simpa using this
        clear hb2 HEN ov hgd hfN hfn
        obtain ⟨m, hm⟩ : ∃ m, l.length = m := ⟨_, rfl⟩
        rw [hm] at hrl
        obtain ⟨r0, hr0⟩ : ∃ r, Hid (rs[0]? = some r) := ⟨rs[0]'(by omega), Lib.hid (List.getElem?_eq_getElem (by omega))⟩
        obtain ⟨rz, hrz⟩ : ∃ r, Hid (rs[m]? = some r) := ⟨rs[m]'(by omega), Lib.hid (List.getElem?_eq_getElem (by omega))⟩
        obtain ⟨vo, vc, rfl, -, -, -, -⟩ := own_form OV.out
        obtain ⟨vg, rfl, -, -, e0⟩ := own_cell OV.out (j := 0) (u := r0.2.1) (by have := flat_get c4_len rs 0 0 r0 hr0.out (by decide); simpa [c4] using this)
        have e1 := own_cell' OV.out (j := m * 4) (u := rz.2.1) (by have := flat_get c4_len rs m 0 rz hrz.out (by decide); simpa [c4] using this)
        have hk0 := HGD.out r0 (List.mem_of_getElem? hr0.out)
        have hkz := HGD.out rz (List.mem_of_getElem? hrz.out)
        have HK0 : Hid (keyA (x :: l) = r0.1.1) := Lib.hid (by
          rw [← hrs]; unfold keyA
          have := hr0.out
          rcases rs with _ | ⟨a, rs'⟩
          · cases this
          · cases this; rfl)
        have HKZ : Hid (keyZ (x :: l) = rz.1.1) := Lib.hid (by
          rw [← hrs]; unfold keyZ
          rw [List.getLast?_eq_getElem?, List.length_map, hrl, Nat.add_sub_cancel, List.getElem?_map, hrz.out]; rfl)
        obtain ⟨k0o, k0c, hk0v, -, -, -, -⟩ := hk0.1.form
        obtain ⟨kzo, kzc, hkzv, -, -, -, -⟩ := hkz.1.form
        have OK0 := Lib.hid hk0.1
        have OKZ := Lib.hid hkz.1
        rw [hk0v] at e0 OK0
        rw [hkzv] at e1 OKZ
        rw [← HK0.out] at OK0 e0
        rw [← HKZ.out] at OKZ e1
        rw [hrl] at OV ⊢
        clear hk0 hkz hk0v hkzv HK0 HKZ
        have c1 := HP2.out.c1
        obtain ⟨lo, lc, hlv, -, -, -, -⟩ := own_form HP2.out.ol
        have z1 := HP2.out.fz 1
        subst hlv
        have hrn : rows.length ≤ at_ := by have := hj.out.num; rwa [List.length_map] at this
        obtain ⟨R, hR⟩ : ∃ R, rows.length = R := ⟨_, rfl⟩
        have HRL : Hid (w2.drew.ownsRow w.heap.size 78 5 (.slice lo R lc) R (rows.flatMap c5)) := Lib.hid (by rw [← hR]; exact own_below HP2.out.ol (Below.refl _ w2).drew)
        rw [hR] at c1 HP2 hrn
        have hml : m + 6 ≤ fn := by simp only [List.length_cons] at hfl; omega
        have p5 := IntWalk.i64_in ((m : Int) + 1 - 1) (by omega)
        have p6 : (m : Int) + 1 - 1 = (m : Int) := by omega
        have p7 : (0 : Int) ≤ (m : Int) := by omega
        have p8 : (m : Int) < (m : Int) + 1 := by omega
        have p9 := IntWalk.i64_in (m : Int) (by omega)
        have p10 := IntWalk.i64_in ((at_ : Int) + fn) (by omega)
        have p11 : (0 : Int) < (m : Int) + 1 := by omega
        have HBB : Hid (w.heap.size ≤ w2.drew.heap.size) := Lib.hid G2.out.size
        have HPD := Lib.hid (HP2.out.below (Below.refl _ w2).drew)
        have hC5 : c5 ((at_, at_ + fn, x :: l), .slice k0o (keyA (x :: l)).length k0c, .slice kzo (keyZ (x :: l)).length kzc) = [.int .i64 at_, .int .i64 ((at_ : Int) + fn), .int .i64 ((m : Int) + 1), .slice k0o (keyA (x :: l)).length k0c, .slice kzo (keyZ (x :: l)).length kzc] := by
          simp [c5, hm]
        have HGR : Hid (GoodB w2.drew w.heap.size ((at_, at_ + fn, x :: l), .slice k0o (keyA (x :: l)).length k0c, .slice kzo (keyZ (x :: l)).length kzc)) := Lib.hid ⟨OK0.out.below (Below.refl _ w2).drew, OKZ.out.below (Below.refl _ w2).drew⟩
        have HLL : Hid ((x :: l).length = m + 1) := Lib.hid (by rw [List.length_cons, hm])
        have HSET : Hid (∀ v3 w3, w3.ownsRow w.heap.size 78 5 v3 (R + 1) (rows.flatMap c5 ++ [.int .i64 at_, .int .i64 ((at_ : Int) + fn), .int .i64 ((m : Int) + 1), .slice k0o (keyA (x :: l)).length k0c, .slice kzo (keyZ (x :: l)).length kzc]) → w2.drew.grownBy w3 (Value.slice lo R lc).ownBlock →
            OpI w.heap.size (w3.setCell ⟨tb, 1, none⟩ v3) tb (.slice vao b.length b.length) v3 (.slice none 0 0) u5 0 0 b [] (rows ++ [((at_, at_ + fn, x :: l), .slice k0o (keyA (x :: l)).length k0c, .slice kzo (keyZ (x :: l)).length kzc)]) (allB (rows.map (·.1))) ∧
            OwnEs (w3.setCell ⟨tb, 1, none⟩ v3) w.heap.size (.slice (some ⟨vg, 0, none⟩) (m + 1) vc) (x :: l) ∧ Below w.heap.size w (w3.setCell ⟨tb, 1, none⟩ v3) ∧ w3.heap[tb]? = some (.cells #[.slice vao b.length b.length, .slice lo R lc, .slice none 0 0, .int .i64 0, .int .i64 0] 74 (0, 0))) := Lib.hid (by
          intro v3 w3 ho hg
          have k := Chg.of_grown hg (S := fun b => (Value.slice lo R lc).ownBlock = some b) (fun _ _ h => h)
          refine ⟨HPD.out.setL HGR.out (by rw [hR, hC5]; exact ho) k, HPD.out.esL k v3 (by have := HES.out.below (Below.refl _ w2).drew; rw [hrl] at this; exact this), HPD.out.belL k G2.out.drew v3, HPD.out.boxL k⟩)
        have c1' := ((((Below.refl _ w2).alloc (Nat.le_refl _) (.cells #[.int .i64 at_, .int .i64 ((at_ : Int) + fn), .int .i64 ((m : Int) + 1), .slice k0o (keyA (x :: l)).length k0c, .slice kzo (keyZ (x :: l)).length kzc] 78)).cell (p := ⟨tb, 1, none⟩) HP2.out.lt).trans c1)
        clear hrs hrl hE hfl hm hR HES HGR HPD hC5 OK0 OKZ HGD hr0 hrz OV
        have HALL : Hid ((allB (rows.map (·.1))).length ≤ at_) := Lib.hid hj.out.cnt
        go_upto_region 10 with fail
        go_cut [4] (fun s4 wx => s4 = .pointer (some ⟨tb, 0, none⟩) ∧ ∃ blv', Hid (OpI w.heap.size wx tb (.slice vao b.length b.length) blv' (.slice none 0 0) u5 0 0 b [] (rows ++ [((at_, at_ + fn, x :: l), .slice k0o (keyA (x :: l)).length k0c, .slice kzo (keyZ (x :: l)).length kzc)]) (allB (rows.map (·.1)))) ∧ Hid (OwnEs wx w.heap.size (.slice (some ⟨vg, 0, none⟩) (m + 1) vc) (x :: l)) ∧ Hid (Below w.heap.size w wx))
        case first =>
          --F
          go_wp2_with fail
          go_region_law ((refine step_of_list rfl ?_; refine wpList_append_cells (w := w2.drew) (base := w.heap.size) (size := 5) (n := R) (xs := rows.flatMap c5) (.tmp 56) (.tmp 75) _ rfl rfl i2 _ 72 Try.underlying72 HI2.out HY0.out HY1.out HY2.out rfl (by decide) [.int .i64 at_, .int .i64 ((at_ : Int) + fn), .int .i64 ((m : Int) + 1), .slice k0o (keyA (x :: l)).length k0c, .slice kzo (keyZ (x :: l)).length kzc] rfl (by intro u hu; simp only [List.mem_cons, List.not_mem_nil, or_false] at hu; rcases hu with rfl | rfl | rfl | rfl | rfl <;> rfl) rfl rfl HRL.out (by omega) (by omega) HBB.out ?_; intro v3 w3 ho3 hg3 hk3; refine list_done ?_; have HX3 := Lib.hid (HSET.out v3 w3 ho3 hg3); obtain ⟨o3, c3, rfl, -, -, -, -⟩ := own_form ho3; have d1 : w3.cell? ⟨tb, 1, none⟩ = some (.slice lo R lc) := (cell_of_row _ _ 1 _ _ _ HX3.out.2.2.2).trans rfl; have d2 := frozen_of_row _ _ 1 _ _ HX3.out.2.2.2; clear ho3 hg3 hk3))
          all_goals (
            obtain ⟨x1, x2, x3, -⟩ := HX3.out
            go_wp2_with fail
            go_meet
            exact ⟨rfl, _, x1, x2, x3⟩)
          --E
        case rest =>
          obtain ⟨rfl, blv', H3, E3, B3⟩ := hcut
          obtain ⟨A, hA⟩ : ∃ A, (allB (rows.map (·.1))).length = A := ⟨_, rfl⟩
          obtain ⟨rs1, e1, o1, g1⟩ := H3.out.oa
          obtain ⟨rs2, e2, o2, g2⟩ := E3.out
          obtain ⟨ao1, ac1, rfl, -, -, -, -⟩ := own_form o1
          have hal := HALL.out
          rw [hA] at o1 hal
          have O1 := Lib.hid o1
          have SL2 : Hid (SlC wc (.slice (some ⟨vg, 0, none⟩) (m + 1) vc) 4 (m + 1) (rs2.flatMap c4)) := Lib.hid (by
            have h1 : rs2.length = m + 1 := by have := congrArg List.length e2; rw [List.length_map, HLL.out] at this; exact this
            have h2 := o2
            rw [HLL.out] at h2
            have h3 := slc_es (rs := rs2) (w := wc) (base := w.heap.size) (v := .slice (some ⟨vg, 0, none⟩) (m + 1) vc) (by rw [h1]; exact h2)
            rw [h1] at h3
            exact h3)
          have ONE : Hid (∀ y ∈ rs2.flatMap c4, y.oneCell' = true) := Lib.hid (fun y hy => by
            obtain ⟨r, hr, hy⟩ := List.mem_flatMap.1 hy
            exact c4_one (g2 r hr) y hy)
          have HSA : Hid (∀ v4 w4, w4.ownsRow w.heap.size 46 4 v4 (A + (m + 1)) (rs1.flatMap c4 ++ rs2.flatMap c4) → wc.grownBy w4 (Value.slice ao1 A ac1).ownBlock →
              OpI w.heap.size w4 tb (.slice vao b.length b.length) blv' (.slice none 0 0) v4 0 0 b [] (rows ++ [(((at_, at_ + fn, x :: l), Value.slice k0o (keyA (x :: l)).length k0c, Value.slice kzo (keyZ (x :: l)).length kzc) : BV)]) (allB ((rows ++ [(((at_, at_ + fn, x :: l), Value.slice k0o (keyA (x :: l)).length k0c, Value.slice kzo (keyZ (x :: l)).length kzc) : BV)]).map (·.1))) ∧ Below w.heap.size w w4) := Lib.hid (by
            intro v4 w4 ho hg
            have k := Chg.of_grown hg (S := fun b => (Value.slice ao1 A ac1).ownBlock = some b) (fun _ _ h => h)
            rw [hA] at H3
            refine ⟨?_, H3.out.belA k B3.out⟩
            rw [allB_snoc]
            exact H3.out.setA (es_app e1 e2 o1 g1 g2 (by rw [hA, HLL.out]; exact ho) hg) k)
          have HBB2 : Hid (w.heap.size ≤ wc.heap.size) := Lib.hid B3.out.size
          rw [hA]
          clear hA o1 g1 g2 e1 e2 o2 H3 E3 B3 HALL
          go_wp2_with (at_builtin; refine wpList_append_slc (w := wc) (base := w.heap.size) (n := A) (xs := rs1.flatMap c4) (.tmp 79) (.tmp 80) _ rfl rfl i0 _ 64 Try.underlying22 HI.out HZ0.out HZ1.out HZ2.out rfl (by decide) _ (m + 1) (rs2.flatMap c4) rfl rfl O1.out SL2.out ONE.out (by unfold maxLen; omega) (by omega) HBB2.out ?_; intro v4 w4 ho4 hg4; have H4 := Lib.hid (HSA.out v4 w4 ho4 hg4); obtain ⟨o4, c4', rfl, -, -, -, -⟩ := own_form ho4; clear ho4 hg4)
          go_roundw
          case rel => exact ⟨rows ++ [(((at_, at_ + fn, x :: l), Value.slice k0o (keyA (x :: l)).length k0c, Value.slice kzo (keyZ (x :: l)).length kzc) : BV)], at_ + fn, k - 1, blv', by go_num, Lib.hid H4.out.1, Lib.hid (by rw [List.map_append]; exact HJ.out), Lib.hid H4.out.2⟩
          case measure => simp [intOf] <;> omega
    · have HBF := Lib.hid (hj.out.stop hq)
      have hale := hj.out.le
      obtain ⟨M, hM⟩ : ∃ M, b.length = M + 40 := ⟨b.length - 40, by omega⟩
      have p1 : (b.length : Int) - 40 = (M : Int) := by omega
      have p2 := IntWalk.i64_in ((b.length : Int) - 40) (by omega)
      have p3 : (M : Int) ≤ bc := by omega
      have p4 : (0 : Int) ≤ (M : Int) := by omega
      have p5 : (M : Int) ≤ b.length := by omega
      have p6 : ¬ bc = M := by omega
      have p7 : b.length - M = 40 := by omega
      obtain ⟨C, hC⟩ : ∃ C, bc - M = C := ⟨_, rfl⟩
      have p8 : (28 : Int) ≤ (C : Int) := by omega
      have p9 : (32 : Int) ≤ (C : Int) := by omega
      have p10 : ¬ C = 24 := by omega
      have p11 : ¬ C = 28 := by omega
      have HT : Hid (IsB w (.slice (some ⟨g, o + M, none⟩) 40 C) (b.drop M)) := Lib.hid (isB_suf (ao' := some ⟨g, o + M, none⟩) (n := M) (k := 40) (cap' := C) Hb.out (by omega) p7.symm hC.symm (.inr (by rw [Option.map_some, plain_add'])))
      have hTL : (b.drop M).length = 40 := by rw [List.length_drop]; omega
      have HS1 : Hid (IsB w (.slice (some ⟨g, o + M + 24, none⟩) 4 (C - 24)) (((b.drop M).drop 24).take 4)) := Lib.hid (Codec.IsB.front (isB_suf (ao' := some ⟨g, o + M + 24, none⟩) (n := 24) (k := 16) (cap' := C - 24) HT.out (by omega) (by omega) rfl (.inr (by rw [Option.map_some, plain_add']))) 4 (by rw [List.length_drop]; omega))
      have HS2 : Hid (IsB w (.slice (some ⟨g, o + M + 28, none⟩) 4 (C - 28)) (((b.drop M).drop 28).take 4)) := Lib.hid (Codec.IsB.front (isB_suf (ao' := some ⟨g, o + M + 28, none⟩) (n := 28) (k := 12) (cap' := C - 28) HT.out (by omega) (by omega) rfl (.inr (by rw [Option.map_some, plain_add']))) 4 (by rw [List.length_drop]; omega))
      have HL1 : Hid (∀ W, Below w.heap.size w W → Calls Try.prog 41 #[.slice (some ⟨g, o + M + 24, none⟩) 4 (C - 24)] W (Ret (.int .i64 (lowF (((b.drop M).drop 24).take 4))) W)) := Lib.hid (fun W h => low_any _ _ W (HS1.out.below h) (by rw [List.length_take]; omega))
      have HL2 : Hid (∀ W, Below w.heap.size w W → Calls Try.prog 41 #[.slice (some ⟨g, o + M + 28, none⟩) 4 (C - 28)] W (Ret (.int .i64 (lowF (((b.drop M).drop 28).take 4))) W)) := Lib.hid (fun W h => low_any _ _ W (HS2.out.below h) (by rw [List.length_take]; omega))
      have hb1 := lowF_bd 4 (((b.drop M).drop 24).take 4) ((Hb.out.rng.drop _).drop _ |>.take _) (by rw [List.length_take, List.length_drop]; omega) (Nat.le_refl _)
      have hb2 := lowF_bd 4 (((b.drop M).drop 28).take 4) ((Hb.out.rng.drop _).drop _ |>.take _) (by rw [List.length_take, List.length_drop]; omega) (Nat.le_refl _)
      have HOB : Hid (openF b = if codeF (allB (rows.map (·.1))) (lowF (((b.drop M).drop 24).take 4)) (lowF (((b.drop M).drop 28).take 4)) = 0 ∧ tabF (allB (rows.map (·.1))) (lowF (((b.drop M).drop 24).take 4)) (lowF (((b.drop M).drop 28).take 4)) = b then some (rows.map (·.1), at_) else none) := Lib.hid (by
        rw [HOA.out, HBF.out, hM, Nat.add_sub_cancel])
      generalize lowF (((b.drop M).drop 24).take 4) = bb at HL1 hb1 HOB
      generalize lowF (((b.drop M).drop 28).take 4) = pk at HL2 hb2 HOB
      generalize hall : allB (rows.map (·.1)) = all at hop HOB
      have HALL := Lib.hid hall
      have HBU : Hid (∀ W, Below wr.heap.size wr W → Calls Try.prog 11 #[u5, .int .i64 bb, .int .i64 pk] W (BuildP all bb pk W)) := Lib.hid (fun W h => build_any u5 all bb pk W (hop.out.below h).oa.isEs (by unfold I64; omega) (by unfold I64; omega))
      obtain ⟨A, hA⟩ : ∃ A, all.length = A := ⟨_, rfl⟩
      obtain ⟨ao1, ac1, hu5⟩ : ∃ ao1 ac1, u5 = .slice ao1 A ac1 := by
        obtain ⟨rs, -, ho, -⟩ := hop.out.oa
        rw [hA] at ho
        obtain ⟨a1, c1, h1, -⟩ := own_form ho
        exact ⟨a1, c1, h1⟩
      subst hu5
      have HAE := Lib.hid hA
      have HTF : Hid (∀ W, Below w.heap.size w W → Calls Try.prog 42 #[.slice (if bc = at_ then some ⟨g, o, none⟩ else some ⟨g, o + at_, none⟩) (b.length - at_) (bc - at_)] W (TFPost (b.drop at_) W)) := Lib.hid (fun W h => takeFrame_any _ _ W ((isB_suf (n := at_) Hb.out (by omega) rfl rfl (by
        by_cases h8 : bc = at_
        · rw [if_pos h8]; exact .inl ⟨h8, rfl⟩
        · rw [if_neg h8]; exact .inr (by rw [Option.map_some, plain_add']))).below h) (by rw [List.length_drop]; omega))
      have HOP := hop
      have HBL := hbl
      have p12 : (at_ : Int) ≤ b.length := by omega
      have p13 : (at_ : Int) ≤ bc := by omega
      have p14 : (0 : Int) ≤ (at_ : Int) := by omega
      have HBI : Hid (IsB w (.slice (some ⟨g, o, none⟩) b.length bc) b) := Hb
      clear hall HT HS1 HS2 hTL HOA HNO hM hb1 hb2 hA hop
      rcases (by omega : at_ < b.length ∨ (b.length ≤ at_ ∧ bc ≠ at_) ∨ (b.length ≤ at_ ∧ bc = at_)) with hat | ⟨hat, hbc⟩ | ⟨hat, hbc⟩
      obtain ⟨g', o', x, hao, hlt, hx, hc, -, -⟩ := Hb.out.at_ hat
      cases hao
      have hx68 : (x == 68) = false := beq_eq_false_iff_ne.2 (fun e => hq (by rw [hx.out, e]))
      have c0 : wr.cell? ⟨g, o + at_, none⟩ = some (.int .u8 x) := (hbl.out.cell (p := ⟨g, o + at_, none⟩) hlt).trans hc
      have p0 : (at_ : Int) < b.length := by omega
      have hbc : ¬ bc = at_ := by omega
      rw [if_neg hbc] at HTF
      clear hx hc hq hbl hat
      go_wp2_with fail
      rotate_left
      have p0 : ¬ (at_ : Int) < b.length := by omega
      rw [if_neg hbc] at HTF
      clear hq hbl hat
      go_wp2_with fail
      rotate_left
      have p0 : ¬ (at_ : Int) < b.length := by omega
      rw [if_pos hbc] at HTF
      have hbc' := hbc.symm
      subst hbc'
      rw [Nat.sub_self, show b.length - at_ = 0 from by omega] at HTF
      clear hq hbl hat
      go_wp2_with fail
      rotate_left
      all_goals (
        go_region_held3 (fun _ => True) (trivial) (first
          | (go_at_call 41; have hc := HL1.out wr.drew HBL.out.drew; (with_reducible refine Calls.mono hc ?_); clear hc; rintro e w2 ⟨rfl, g2⟩)
          | (go_at_call 41; have hc := HL2.out w2 (HBL.out.drew.trans (g2.mono HBL.out.size)); (with_reducible refine Calls.mono hc ?_); clear hc; rintro e w3 ⟨rfl, g3⟩)
          | (go_at_call 11; have hc := HBU.out w3 (bel_call ((Below.refl _ wr).drew.trans g2) g3); (with_reducible refine Calls.mono hc ?_); clear hc; unfold BuildP; rintro e w4 ⟨v4, rfl, o4, g4⟩))
        have G4 : Hid (Below w.heap.size w w4) := Lib.hid (bel_call (bel_call (bel_call HBL.out.drew g2) g3) g4)
        have HP4 := Lib.hid (HOP.out.below (bel_call (bel_call ((Below.refl _ wr).drew.trans g2) g3) g4))
        have I4 := Lib.hid o4.isB
        obtain ⟨vo4, vc4, rfl, -, -, -, -⟩ := o4.form
        clear g2 g3 g4 o4 HL1 HL2 HBU HOP HBL
        by_cases hcd : codeF all bb pk = 0
        · rw [hcd]
          have HEQ := Lib.hid (bytesEqual_any _ _ _ b w4 I4.out (HBI.out.below G4.out))
          by_cases het : tabF all bb pk = b
          · rw [decide_eq_true het] at HEQ
            have HO : Hid (openF b = some (rows.map (·.1), at_)) := Lib.hid (by rw [HOB.out, if_pos ⟨hcd, het⟩])
            have HTC := Lib.hid (HTF.out w4 G4.out)
            obtain ⟨fk, FB, fn, fcode, hT⟩ : ∃ a b1 c d, takeFrameF (b.drop at_) = (a, b1, c, d) := ⟨_, _, _, _, rfl⟩
            have HTE := Lib.hid hT
            unfold TFPost at HTC
            rw [hT] at HTC
            simp only at HTC
            clear hT
            clear HOB HTF hcd het
            generalize (tabF all bb pk).length = TL at HEQ ⊢
            go_wp2_with fail
            refine HEQ.out.mono ?_
            rintro e w5 ⟨rfl, rfl⟩
            go_wp2_with fail
            have hc := HTC.out
            (with_reducible refine Calls.mono hc ?_)
            clear hc
            rintro e w6 ⟨v6, rfl, o6, g6⟩
            have HP6 := Lib.hid (HP4.out.below g6)
            have O6 := Lib.hid (o6.mono G4.out.size)
            have G6 := Lib.hid (bel_call G4.out g6)
            have c2 : w6.cell? ⟨tb, 2, none⟩ = some (.slice none 0 0) := (cell_of_row _ _ 2 _ _ _ HP6.out.box).trans rfl
            have z2 := HP6.out.fz 2
            have c3 : w6.cell? ⟨tb, 3, none⟩ = some (.int .i64 0) := (cell_of_row _ _ 3 _ _ _ HP6.out.box).trans rfl
            have z3 := HP6.out.fz 3
            obtain ⟨fo, fc, rfl, -, -, -, -⟩ := o6.form
            generalize hfl : FB.length = FL at O6 ⊢
            clear o6 g6 HTC HEQ hfl
            go_wp2_with fail
            have HFIN : Hid (OpI w.heap.size ((w6.setCell ⟨tb, 2, none⟩ (.slice fo FL fc)).setCell ⟨tb, 3, none⟩ (.int .i64 A)) tb (.slice vao b.length b.length) blv (.slice fo FL fc) (.slice ao1 A ac1) A 0 b FB rows all) := Lib.hid ((HP6.out.setB 2 (.slice fo FL fc) (fv' := .slice fo FL fc) (cnt' := 0) (rd' := 0) rfl O6.out).setB 3 (.int .i64 A) (fv' := .slice fo FL fc) (cnt' := A) (rd' := 0) rfl (ownS_set O6.out (p := ⟨tb, 2, none⟩) (fun b1 hb1 e1 => by
              obtain ⟨c9, hc9⟩ := O6.out.typed b1 hb1
              rw [e1] at hc9
              exact absurd (types_apart hc9 HP6.out.box) (by decide)) _))
            have GFIN : Hid (Below w.heap.size w ((w6.setCell ⟨tb, 2, none⟩ (.slice fo FL fc)).setCell ⟨tb, 3, none⟩ (.int .i64 A))) := Lib.hid ((G6.out.setCell HP6.out.bw _).setCell HP6.out.bw _)
            refine bodyPost_ret (v := .tuple #[.pointer (some ⟨tb, 0, none⟩), .int .i64 0]) (by first | (simp [results, Try.results13, go_sem]; done) | (simp [results, Try.results13, go_sem]; go_simp)) rfl ?_
            unfold OpenP
            rw [HO.out]
            simp only [HTE.out]
            refine ⟨tb, .slice vao b.length b.length, blv, .slice fo FL fc, .slice ao1 A ac1, rows, rfl, rfl, ?_, GFIN.out⟩
            rw [HALL.out, HAE.out]
            exact HFIN.out
          · rw [decide_eq_false het] at HEQ
            have HO : Hid (openF b = none) := Lib.hid (by rw [HOB.out, if_neg (fun h => het h.2)])
            clear HOB HTF hcd het
            generalize (tabF all bb pk).length = TL at HEQ ⊢
            go_wp2_with fail
            refine HEQ.out.mono ?_
            rintro e w5 ⟨rfl, rfl⟩
            go_wp2_with fail
            refine bodyPost_ret (v := .tuple #[.pointer none, .int .i64 44]) (by first | (simp [results, Try.results13, go_sem]; done) | (simp [results, Try.results13, go_sem]; go_simp)) rfl (openP_no HO.out G4.out)
        · have HO : Hid (openF b = none) := Lib.hid (by rw [HOB.out, if_neg (fun h => hcd h.1)])
          have q0 : (codeF all bb pk == 0) = false := beq_eq_false_iff_ne.2 hcd
          have q00 : (codeF all bb pk != 0) = true := by simpa using hcd
          generalize codeF all bb pk = cd at q0 q00 hcd ⊢
          generalize (tabF all bb pk).length = TL at I4 ⊢
          clear HOB HTF
          go_wp2_with fail
          refine bodyPost_ret (v := .tuple #[.pointer none, .int .i64 44]) (by first | (simp [results, Try.results13, go_sem]; done) | (simp [results, Try.results13, go_sem]; go_simp)) rfl (openP_no HO.out G4.out))
end Ss
end Go.Proofs.Ytmojbamloanleaa
