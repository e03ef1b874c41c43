/- sstable: SstableBack (the law, walked). -/
import Derived.Test.YtmojbamloanleaaSs35
import Derived.Test.YtmojbamloanleaaSs45
set_option linter.unusedVariables false
set_option linter.unusedSimpArgs false
namespace Go.Proofs.Ytmojbamloanleaa
open Go.RowKit
namespace Ss
open Mt Codec
theorem seekF_le (key : List Int) (seq : Int) : ∀ bs : List Blk, (seekF key seq bs).2 ≤ bs.length
  | [] => by simp [seekF]
  | p :: bs => by
    have := seekF_le key seq bs
    unfold seekF
    split
    · simp
    · split
      · simp only [List.length_cons]; omega
      · simp
theorem box_four {W : World} {eb : Nat} {t : TypeId} {z0 z1 z2 z3 a b c d : Value} (h : W.heap[eb]? = some (.cells #[z0, z1, z2, z3] t (0, 0))) : ((((W.setCell ⟨eb, 0, none⟩ a).setCell ⟨eb, 1, none⟩ b).setCell ⟨eb, 2, none⟩ c).setCell ⟨eb, 3, none⟩ d).heap[eb]? = some (.cells #[a, b, c, d] t (0, 0)) :=
  heap_setCell_same _ _ _ _ _ _ (heap_setCell_same _ _ _ _ _ _ (heap_setCell_same _ _ _ _ _ _ (heap_setCell_same _ _ _ _ _ _ h)))
theorem own_four {W : World} {eb base : Nat} {cur : Array Value} {f : Nat × Nat} {a b c d v : Value} {l : List Int} (h : OwnS W base 5 v l) (he : W.heap[eb]? = some (.cells cur 46 f)) : OwnS ((((W.setCell ⟨eb, 0, none⟩ a).setCell ⟨eb, 1, none⟩ b).setCell ⟨eb, 2, none⟩ c).setCell ⟨eb, 3, none⟩ d) base 5 v l := by
  have hn : ∀ b, v.ownBlock = some b → b ≠ eb := fun b hb e => by
    obtain ⟨c2, hc⟩ := h.typed b hb
    rw [e] at hc
    exact absurd (types_apart hc he) (by decide)
  exact ownS_set (ownS_set (ownS_set (ownS_set h (p := ⟨eb, 0, none⟩) hn _) (p := ⟨eb, 1, none⟩) hn _) (p := ⟨eb, 2, none⟩) hn _) (p := ⟨eb, 3, none⟩) hn _
theorem OpI.four {base tb : Nat} {w W : World} {bv blv fv av : Value} {b fil : List Int} {cnt rd rd' : Int} {rows : List BV} {all : List En} {a0 a1 a2 a3 : Value} (h : OpI base w tb bv blv fv av cnt rd b fil rows all) (c : Chg (fun b => b = tb) w W)
    (hx : W.heap[tb]? = some (.cells #[bv, blv, fv, .int .i64 cnt, .int .i64 rd'] 74 (0, 0))) : OpI base ((((W.setCell ⟨w.heap.size, 0, none⟩ a0).setCell ⟨w.heap.size, 1, none⟩ a1).setCell ⟨w.heap.size, 2, none⟩ a2).setCell ⟨w.heap.size, 3, none⟩ a3) tb bv blv fv av cnt rd' b fil rows all := by
  have hlt := h.lt
  refine h.away ((((c.set (p := ⟨w.heap.size, 0, none⟩) (fun e => absurd e (Nat.lt_irrefl _)) _).set (p := ⟨w.heap.size, 1, none⟩) (fun e => absurd e (Nat.lt_irrefl _)) _).set (p := ⟨w.heap.size, 2, none⟩) (fun e => absurd e (Nat.lt_irrefl _)) _).set (p := ⟨w.heap.size, 3, none⟩) (fun e => absurd e (Nat.lt_irrefl _)) _) ?_
  rw [Below.heap_setCell _ _ _ _ (by simp only; omega), Below.heap_setCell _ _ _ _ (by simp only; omega), Below.heap_setCell _ _ _ _ (by simp only; omega), Below.heap_setCell _ _ _ _ (by simp only; omega)]
  exact hx
set_option maxRecDepth 100000 in
set_option maxHeartbeats 8000000 in
theorem back_any (lv : Value) (l : List En) (bb pk : Int) (w : World) (h : IsEs w lv l) (hbb : I64 bb) (hpk : I64 pk) : Calls Try.prog 6 #[lv, .int .i64 bb, .int .i64 pk] w (Ret (.bool true) w) := by
  obtain ⟨lo, lc, rfl, -, -, -⟩ := h.form
  have HL := Lib.hid h
  have HBB := Lib.hid hbb
  have HPK := Lib.hid hpk
  clear h hbb hpk
  go_enter Try.func6, Try.ntmps6
  go_wp2_with fail
  refine (exShown_any w).mono ?_
  rintro e w1 ⟨rfl, b1⟩
  have B1 := Lib.hid b1
  clear b1
  go_wp2_with fail
  refine (build_any _ l bb pk w1 (IsL.below enR_stays HL.out B1.out) HBB.out HPK.out).mono ?_
  unfold BuildP
  rintro e w2 ⟨v2, rfl, o2, b2⟩
  have O2 := Lib.hid (o2.mono B1.out.size)
  have B2 := Lib.hid (bel_call B1.out b2)
  obtain ⟨po, pc, rfl, hpc, -, -, -⟩ := o2.form
  clear o2 b2
  by_cases hc : codeF l bb pk = 0
  · have hR := O2.out.rng
    have HBT := Lib.hid (built hc hR)
    have HOB := Lib.hid (open_back hc hR)
    have hcf := code_facts hc
    have hlm : l.length ≤ 65536 := hcf.2.1.2
    have hmx := hcf.2.2.2.2
    rw [← tab_eq hc] at hmx
    have hlen : 0 < (tabF l bb pk).length := by
      have h9 := (tab_shape hc).eq
      have h8 := (tab_shape hc).ht
      have h7 := congrArg List.length h9
      rw [List.length_append, List.length_append, List.length_append] at h7
      omega
    have HO1 := Lib.hid (open_any _ (tabF l bb pk) w2 O2.out.isB)
    rw [hc]
    have HBT' : Hid ((∀ e ∈ l, Bloom.mayF (takeFrameF ((tabF l bb pk).drop (doneF (blksF l bb)).1.length)).2.1 e.1 = true) ∧ (takeFrameF ((tabF l bb pk).drop (doneF (blksF l bb)).1.length)).2.1.length ≤ 2097152) := Lib.hid ⟨HBT.out.may, HBT.out.fil⟩
    generalize blkL 0 (blksF l bb) = bs at HBT HOB
    generalize (doneF (blksF l bb)).1.length = at_ at HOB HBT'
    have p0 : ((tabF l bb pk).length : Int) = (tabF l bb pk).length := rfl
    clear p0 hc hcf hR
    go_wp2_with fail
    refine HO1.out.mono ?_
    unfold OpenP
    rw [HOB.out]
    rintro e w3 ⟨tb, bv, blv, fv, av, rows, rfl, hrows, h3, b3⟩
    subst hrows
    have H3 := Lib.hid h3
    have B3 := Lib.hid (bel_call B2.out b3)
    have hbw := Nat.le_trans B2.out.size h3.bw
    generalize (takeFrameF ((tabF l bb pk).drop at_)).2.1 = fil at HBT' H3
    have HOK : Hid (∀ r ∈ rows, BlkOk (tabF l bb pk) r.1 ∧ r.1.2.2.length ≤ 65536 ∧ ∀ e ∈ r.1.2.2, mayB e = true) := Lib.hid (fun r hr => ⟨HBT.out.ok r.1 (List.mem_map.2 ⟨r, hr, rfl⟩), HBT.out.sm r.1 (List.mem_map.2 ⟨r, hr, rfl⟩)⟩)
    have hrl : 1 ≤ rows.length ∧ rows.length ≤ 65537 := by have := HBT.out.len; rwa [List.length_map] at this
    have HSH : Hid (∀ e : En, mayB e = true → Short e) := Lib.hid (fun e he => by have := may_facts he; unfold Short; omega)
    have HSC : Hid (Calls Try.prog 15 #[.pointer (some ⟨tb, 0, none⟩), .slice none 0 0, .int .i64 ((l.length : Int) + 1)] w3 (fun e w' => ∃ (v : Value) (rd : Nat), e = .returned v ∧ OwnEs w' w3.heap.size v l ∧ rd ≤ 65537 ∧ OpI w2.heap.size w' tb bv blv fv av (allB (rows.map (·.1))).length rd (tabF l bb pk) fil rows (allB (rows.map (·.1))) ∧ Chg (fun b => b = tb) w3 w')) := Lib.hid (by
      have h9 := lscan_any w2.heap.size tb bv blv fv av (tabF l bb pk) fil (allB (rows.map (·.1))).length 0 rows (allB (rows.map (·.1))) (.slice none 0 0) [] (l.length + 1) w3 H3.out (OwnS.none (base := 0) (e := 5)).isB (by simp) (fun r hr => ⟨(HOK.out r hr).1, by have := (HOK.out r hr).2.1; omega, fun e he => HSH.out e ((HOK.out r hr).2.2 e he)⟩) (by omega) hmx hlen ⟨by omega, by omega⟩ ⟨by omega, by omega⟩
      rw [Int.natCast_add, find_nil, List.drop_zero] at h9
      refine h9.mono ?_
      unfold ScanLP
      rintro e w' ⟨v, rfl, o, i, c⟩
      have hy : (ylF [] 0 (rows.map (·.1))).map (·.1) = l := by rw [yl_nil, HBT.out.all]
      have hyl : (ylF [] 0 (rows.map (·.1))).length = l.length := by rw [← List.length_map (f := (·.1)), hy]
      rw [hy, List.take_of_length_le (by omega)] at o
      refine ⟨v, _, rfl, o, ?_, by rw [Int.zero_add] at i; exact i, c⟩
      unfold scanN
      rw [if_pos (by omega), List.length_map]
      omega)
    have p1 := IntWalk.i64_in ((l.length : Int) + 1) (by omega)
    clear h3 b3 HO1 HOB
    go_wp2_with fail
    refine HSC.out.mono ?_
    rintro e w4 ⟨v4, rd0, rfl, o4, hrd0, i4, c4'⟩
    have I4 := Lib.hid i4
    have O4 := Lib.hid o4.isEs
    have B4 : Hid (Below w.heap.size w w4) := Lib.hid (B3.out.trans (c4'.below B3.out.size (fun b hb e => by omega)))
    obtain ⟨ao4, ac4, rfl, -, -, -⟩ := O4.out.form
    clear o4 i4 c4' HSC
    go_wp2_with fail
    refine (same_any _ _ l l w4 O4.out (IsL.below enR_stays HL.out B4.out)).mono ?_
    rintro e w5 ⟨rfl, b5⟩
    rw [decide_eq_true (rfl : l = l)]
    have I5 := Lib.hid (I4.out.below b5)
    have B5 := Lib.hid (bel_call B4.out b5)
    clear b5 I4 B4 O4
    go_wp2_with fail
    go_loopw [14] (fun iv wr => ∃ (k rd : Nat), iv = .int .i64 k ∧ k ≤ l.length ∧ rd ≤ 65537 * (k + 1) ∧ Hid (OpI w2.heap.size wr tb bv blv fv av (allB (rows.map (·.1))).length rd (tabF l bb pk) fil rows (allB (rows.map (·.1)))) ∧ Hid (Below w.heap.size w wr)) (fun iv _ => l.length - (intOf iv).toNat)
    case atStart => exact ⟨0, rd0, rfl, Nat.zero_le _, by omega, I5, B5⟩
    case round =>
      obtain ⟨k, rd, rfl, hk, hrd, hi, hb⟩ := hrel
      by_cases hkl : k < l.length
      · obtain ⟨b, o, x, kv, vv, hao, cbb, hx, xd0, xd1, xd2, xd3, hkv, hvv, hu⟩ := IsEs.at4 HL.out hkl
        subst hao
        have HU := Lib.hid hu
        obtain ⟨xko, xkc, rfl, -, -, -⟩ := hkv.out.form
        obtain ⟨xvo, xvc, rfl, -, -, -⟩ := hvv.out.form
        have q0 : (k : Int) < l.length := by omega
        have q1 := IntWalk.i64_in ((k : Int) + 1) (by omega)
        have q2 : (0 : Int) ≤ (k : Int) := by omega
        have q3 := IntWalk.i64_in (k : Int) (by omega)
        have x0 : wr.cell? ⟨b, o + k * 4, none⟩ = some (.slice xko x.1.length xkc) := (hb.out.cell (p := ⟨b, o + k * 4, none⟩) cbb).trans xd0
        have x1 : wr.cell? ⟨b, o + k * 4 + 1, none⟩ = some (.int .u64 x.2.1) := (hb.out.cell (p := ⟨b, o + k * 4 + 1, none⟩) cbb).trans xd1
        have hxl : x ∈ l := List.mem_of_getElem? hx.out
        obtain ⟨n, hget, hn⟩ := get_at (fil := fil) HBT.out.asc HBT.out.ne (by rw [HBT.out.all]; exact hxl) (HBT'.out.1 x hxl)
        rw [List.length_map] at hn
        obtain ⟨m, hm⟩ : ∃ m, rows.length = m + 1 := ⟨rows.length - 1, by omega⟩
        have HG : Hid (∀ W, Below wr.heap.size wr W → Calls Try.prog 18 #[.pointer (some ⟨tb, 0, none⟩), .slice xko x.1.length xkc, .int .u64 x.2.1] W (fun e w' => ∃ ko6 kc6 vo6 vc6, e = .returned (.tuple #[.agg #[.slice ko6 x.1.length kc6, .int .u64 x.2.1, .bool x.2.2.1, .slice vo6 x.2.2.2.length vc6], .bool true]) ∧ OwnS w' wr.heap.size 5 (.slice ko6 x.1.length kc6) x.1 ∧ OwnS w' wr.heap.size 5 (.slice vo6 x.2.2.2.length vc6) x.2.2.2 ∧ OpI w2.heap.size w' tb bv blv fv av (allB (rows.map (·.1))).length (rd + n : Nat) (tabF l bb pk) fil rows (allB (rows.map (·.1))) ∧ Chg (fun b => b = tb) W w')) := Lib.hid (fun W hW => by
          have h9 := get_any w2.heap.size tb bv blv fv av (tabF l bb pk) fil (allB (rows.map (·.1))).length rd rows (allB (rows.map (·.1))) (.slice xko x.1.length xkc) x.1 x.2.1 m W (hi.out.below hW) hm (by omega) (hkv.out.below (bel_call hb.out hW)) HU.out (fun r hr => (HOK.out r hr).1) (fun r hr => ⟨by have := keyA_le (HOK.out r hr).2.2; omega, by have := keyZ_le (HOK.out r hr).2.2; omega, by have := (HOK.out r hr).2.1; omega⟩) hmx hlen (by have := HBT'.out.2; omega) ⟨by omega, by
            have : rd ≤ 65537 * 65537 := Nat.le_trans hrd (Nat.mul_le_mul (Nat.le_refl _) (by omega))
            omega⟩
          rw [hget] at h9
          refine h9.mono (fun e w' ⟨kv, vv, e1, e2, e3, e4, e5, e6⟩ => ?_)
          obtain ⟨ko6, kc6, rfl, -, -, -, -⟩ := e2.form
          obtain ⟨vo6, vc6, rfl, -, -, -, -⟩ := e3.form
          exact ⟨ko6, kc6, vo6, vc6, e1, e2.mono hW.size, e3.mono hW.size, by rw [Int.natCast_add]; exact e5, e6⟩)
        have HB6 : Hid (∀ W w6, Below wr.heap.size wr W → Chg (fun b => b = tb) W w6 → Below w.heap.size w w6) := Lib.hid (fun W w6 hW c => (bel_call hb.out hW).trans (c.below (Nat.le_trans hb.out.size hW.size) (fun b1 h1 e1 => by have e2 : b1 = tb := e1; omega)))
        have htl := hi.out.lt
        have HCB : Hid (∀ w6, Chg (fun b => b = tb) (wr.alloc (.cells #[.slice none 0 0, .int .u64 0, .bool false, .slice none 0 0] 46)).drew w6 → w6.heap[wr.heap.size]? = some (.cells #[.slice none 0 0, .int .u64 0, .bool false, .slice none 0 0] 46 (0, 0))) := Lib.hid (fun w6 c => (c.block wr.heap.size (by show wr.heap.size < (wr.alloc _).heap.size; simp) (fun e => by omega)).trans (heap_alloc_new wr _))
        have cbr : b < wr.heap.size := Nat.lt_of_lt_of_le cbb hb.out.size
        have y0 := (((Below.refl _ wr).alloc (Nat.le_refl _) (.cells #[.slice none 0 0, .int .u64 0, .bool false, .slice none 0 0] 46)).cell (p := ⟨b, o + k * 4, none⟩) cbr).trans x0
        have y1 := (((Below.refl _ wr).alloc (Nat.le_refl _) (.cells #[.slice none 0 0, .int .u64 0, .bool false, .slice none 0 0] 46)).cell (p := ⟨b, o + k * 4 + 1, none⟩) cbr).trans x1
        clear hget hm hxl
        go_upto_region 15 with fail
        go_cut [15, 16] (fun s15 s16 wx => ∃ (eb : Nat) (ko6 vo6 : Option Addr) (kc6 vc6 : Nat), s15 = .pointer (some ⟨eb, 0, none⟩) ∧ s16 = .bool true ∧ Hid (wx.heap[eb]? = some (.cells #[.slice ko6 x.1.length kc6, .int .u64 x.2.1, .bool x.2.2.1, .slice vo6 x.2.2.2.length vc6] 46 (0, 0))) ∧ Hid (OwnS wx wr.heap.size 5 (.slice ko6 x.1.length kc6) x.1) ∧ Hid (OwnS wx wr.heap.size 5 (.slice vo6 x.2.2.2.length vc6) x.2.2.2) ∧ Hid (OpI w2.heap.size wx tb bv blv fv av (allB (rows.map (·.1))).length (rd + n : Nat) (tabF l bb pk) fil rows (allB (rows.map (·.1)))) ∧ Hid (Below w.heap.size w wx))
        case first =>
          go_wp2_with fail
          go_region_law (first
            | (go_simp; go_at_call 18; have hc := HG.out wr.drew (Below.refl _ wr).drew; (with_reducible refine Calls.mono hc ?_); clear hc; rintro e w6 ⟨ko6, kc6, vo6, vc6, rfl, ok6, ov6, i6, c6⟩; have B6 := Lib.hid (HB6.out _ w6 (Below.refl _ wr).drew c6); have X0 := (B6.out.cell (p := ⟨b, o + k * 4, none⟩) cbb).trans xd0; have X1 := (B6.out.cell (p := ⟨b, o + k * 4 + 1, none⟩) cbb).trans xd1)
            | (go_simp; go_at_call 18; have hc := HG.out (wr.alloc (.cells #[.slice none 0 0, .int .u64 0, .bool false, .slice none 0 0] 46)).drew ((Below.refl _ wr).alloc (Nat.le_refl _) _).drew; (with_reducible refine Calls.mono hc ?_); clear hc; rintro e w6 ⟨ko6, kc6, vo6, vc6, rfl, ok6, ov6, i6, c6⟩; have B6 := Lib.hid (HB6.out _ w6 ((Below.refl _ wr).alloc (Nat.le_refl _) _).drew c6); have X0 := (B6.out.cell (p := ⟨b, o + k * 4, none⟩) cbb).trans xd0; have X1 := (B6.out.cell (p := ⟨b, o + k * 4 + 1, none⟩) cbb).trans xd1; have CB := HCB.out w6 c6; have t0 : w6.cell? ⟨wr.heap.size, 0, none⟩ = some (.slice none 0 0) := (cell_of_row _ _ 0 _ _ _ CB).trans rfl; have t1 : w6.cell? ⟨wr.heap.size, 1, none⟩ = some (.int .u64 0) := (cell_of_row _ _ 1 _ _ _ CB).trans rfl; have t2 : w6.cell? ⟨wr.heap.size, 2, none⟩ = some (.bool false) := (cell_of_row _ _ 2 _ _ _ CB).trans rfl; have t3 : w6.cell? ⟨wr.heap.size, 3, none⟩ = some (.slice none 0 0) := (cell_of_row _ _ 3 _ _ _ CB).trans rfl; have g0 := frozen_of_row _ _ 0 _ _ CB; have g1 := frozen_of_row _ _ 1 _ _ CB; have g2 := frozen_of_row _ _ 2 _ _ CB; have g3 := frozen_of_row _ _ 3 _ _ CB))
          all_goals (
            go_wp2_with fail
            go_meet
            first
              | (have hCB := CB; exact ⟨wr.heap.size, ko6, vo6, kc6, vc6, rfl, rfl, Lib.hid (box_four CB), Lib.hid (own_four ok6 CB), Lib.hid (own_four ov6 CB), Lib.hid (hi.out.four ((Chg.of_ext ((Below.refl _ wr).alloc (Nat.le_refl _) _).drew).trans c6) i6.box), Lib.hid ((((B6.out.setCell hb.out.size _).setCell hb.out.size _).setCell hb.out.size _).setCell hb.out.size _)⟩)
              | exact ⟨w6.heap.size, ko6, vo6, kc6, vc6, rfl, rfl, Lib.hid (heap_alloc_new w6 _), Lib.hid (ok6.below ((Below.refl _ w6).alloc (Nat.le_refl _) _)), Lib.hid (ov6.below ((Below.refl _ w6).alloc (Nat.le_refl _) _)), Lib.hid (i6.below ((Below.refl _ w6).alloc (Nat.le_refl _) _)), Lib.hid (bel_alloc B6.out _)⟩)
        case rest =>
          obtain ⟨eb, ko6, vo6, kc6, vc6, rfl, rfl, X6, OK6, OV6, I6, B6⟩ := hcut
          have e0 : wc.cell? ⟨eb, 0, none⟩ = some (.slice ko6 x.1.length kc6) := (cell_of_row _ _ 0 _ _ _ X6.out).trans rfl
          have e1 : wc.cell? ⟨eb, 1, none⟩ = some (.int .u64 x.2.1) := (cell_of_row _ _ 1 _ _ _ X6.out).trans rfl
          have e2 : wc.cell? ⟨eb, 2, none⟩ = some (.bool x.2.2.1) := (cell_of_row _ _ 2 _ _ _ X6.out).trans rfl
          have e3 : wc.cell? ⟨eb, 3, none⟩ = some (.slice vo6 x.2.2.2.length vc6) := (cell_of_row _ _ 3 _ _ _ X6.out).trans rfl
          have f0 : wc.cell? ⟨b, o + k * 4, none⟩ = some (.slice xko x.1.length xkc) := (B6.out.cell (p := ⟨b, o + k * 4, none⟩) cbb).trans xd0
          have f1 : wc.cell? ⟨b, o + k * 4 + 1, none⟩ = some (.int .u64 x.2.1) := (B6.out.cell (p := ⟨b, o + k * 4 + 1, none⟩) cbb).trans xd1
          have f2 : wc.cell? ⟨b, o + k * 4 + 2, none⟩ = some (.bool x.2.2.1) := (B6.out.cell (p := ⟨b, o + k * 4 + 2, none⟩) cbb).trans xd2
          have f3 : wc.cell? ⟨b, o + k * 4 + 3, none⟩ = some (.slice xvo x.2.2.2.length xvc) := (B6.out.cell (p := ⟨b, o + k * 4 + 3, none⟩) cbb).trans xd3
          have HS1 : Hid (Calls Try.prog 19 #[.agg #[.slice ko6 x.1.length kc6, .int .u64 x.2.1, .bool x.2.2.1, .slice vo6 x.2.2.2.length vc6], .agg #[.slice xko x.1.length xkc, .int .u64 x.2.1, .bool x.2.2.1, .slice xvo x.2.2.2.length xvc]] wc.drew (Ret (.bool true) wc.drew)) := Lib.hid (by
            have h9 := sameOne_any _ _ _ _ x x wc.drew OK6.out.isB.drew OV6.out.isB.drew (hkv.out.below B6.out.drew) (hvv.out.below B6.out.drew)
            rw [decide_eq_true (rfl : x = x)] at h9
            exact h9)
          have HN : Hid (rd + n ≤ 65537 * (k + 1 + 1)) := Lib.hid (by omega)
          clear x0 x1 y0 y1 HG HB6 HCB X6 OK6 OV6 xd0 xd1 xd2 xd3
          go_wp2_with fail
          go_region_held3 (fun w' => w'.cell? ⟨eb, 0, none⟩ = some (.slice ko6 x.1.length kc6) ∧ w'.cell? ⟨eb, 1, none⟩ = some (.int .u64 x.2.1) ∧ w'.cell? ⟨eb, 2, none⟩ = some (.bool x.2.2.1) ∧ w'.cell? ⟨eb, 3, none⟩ = some (.slice vo6 x.2.2.2.length vc6) ∧ w'.cell? ⟨b, o + k * 4, none⟩ = some (.slice xko x.1.length xkc) ∧ w'.cell? ⟨b, o + k * 4 + 1, none⟩ = some (.int .u64 x.2.1) ∧ w'.cell? ⟨b, o + k * 4 + 2, none⟩ = some (.bool x.2.2.1) ∧ w'.cell? ⟨b, o + k * 4 + 3, none⟩ = some (.slice xvo x.2.2.2.length xvc)) (first | exact ⟨by assumption, by assumption, by assumption, by assumption, by assumption, by assumption, by assumption, by assumption⟩ | go_keep) ((go_at_call 19; refine HS1.out.mono ?_; rintro e w7 ⟨rfl, b7⟩; have I7 := Lib.hid (I6.out.below ((Below.refl _ wc).drew.trans b7)); have B7 : Hid (Below w.heap.size w w7) := Lib.hid (bel_call B6.out.drew b7); have ebl := World.block_lt_of_cell? wc ⟨eb, 0, none⟩ e0; have hb7 : Below wc.heap.size wc w7 := (Below.refl _ wc).drew.trans b7; have e0 := (hb7.cell (p := ⟨eb, 0, none⟩) ebl).trans e0; have e1 := (hb7.cell (p := ⟨eb, 1, none⟩) ebl).trans e1; have e2 := (hb7.cell (p := ⟨eb, 2, none⟩) ebl).trans e2; have e3 := (hb7.cell (p := ⟨eb, 3, none⟩) ebl).trans e3; have fbl : b < wc.heap.size := Nat.lt_of_lt_of_le cbb B6.out.size; have f0 := (hb7.cell (p := ⟨b, o + k * 4, none⟩) fbl).trans f0; have f1 := (hb7.cell (p := ⟨b, o + k * 4 + 1, none⟩) fbl).trans f1; have f2 := (hb7.cell (p := ⟨b, o + k * 4 + 2, none⟩) fbl).trans f2; have f3 := (hb7.cell (p := ⟨b, o + k * 4 + 3, none⟩) fbl).trans f3; clear b7 hb7))
          go_wp2_with fail
          go_roundw
          case rel => exact ⟨k + 1, rd + n, by go_num, by omega, HN.out, I7, B7⟩
          case measure => simp [intOf] <;> omega
      · have hkk : k = l.length := by omega
        subst hkk
        have q0 : ¬ ((l.length : Int) < (l.length : Int)) := by omega
        go_wp2_with fail
        go_ret
        exact ⟨rfl, hb.out⟩
  · have HT : Hid ((tabF l bb pk).length = 0) := Lib.hid (by unfold tabF; rw [if_neg hc]; rfl)
    have q : (codeF l bb pk == 0) = false := beq_eq_false_iff_ne.2 hc
    have q2 : (codeF l bb pk != 0) = true := by simpa using hc
    generalize codeF l bb pk = cd at q q2 hc ⊢
    rw [HT.out]
    clear O2
    go_wp2_with fail
    go_ret
    exact ⟨rfl, B2.out⟩
end Ss
end Go.Proofs.Ytmojbamloanleaa
