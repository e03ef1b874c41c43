/- sstable: a frame behind bytes; each key once (walks of the reference's put, keys). sstable: the reference's bytes: the rows of one block (walk). sstable: bytes stay bytes; how long a filter is (plain). -/
import Derived.Test.YtmojbamloanleaaSs7
import Derived.Deep.CutBlock
import Derived.Test.YtmojbamloanleaaBloomRMake
set_option linter.unusedVariables false
set_option linter.unusedSimpArgs false
namespace Go.Proofs.Ytmojbamloanleaa
open Go.RowKit
namespace Ss
open Mt Codec
/-- bytes of the call's own that have grown: their old block turns, no other -/
def GrowP (base : Nat) (vb : Option Nat) (l : List Int) (w : World) (e : Ending) (w' : World) : Prop :=
  ∃ v', e = .returned v' ∧ w'.ownsRow base 5 1 v' l.length (l.map (Value.int .u8)) ∧ Chg (fun b => vb = some b) w w' ∧ (v'.ownBlock = vb ∨ ∃ b, v'.ownBlock = some b ∧ w.heap.size ≤ b)
theorem frame_le {k : Int} {l : List Int} (h : l.length ≤ 2097152) : (frameF k l).length ≤ l.length + 15 := by
  have := numN_len10 (n := l.length) (by omega)
  unfold frameF headF
  simp [le4_len]
  omega
theorem frame_rng {k : Int} {l : List Int} (hk : 0 ≤ k ∧ k ≤ 255) (h : Rng l) : Rng (frameF k l) := ((headF_rng hk l).append (le4_rng _)).append h
set_option maxRecDepth 100000 in
set_option maxHeartbeats 4000000 in
theorem put_any (base : Nat) (v bv : Value) (l body : List Int) (k : Int) (w : World) (hk : 0 ≤ k ∧ k ≤ 255) (ho : w.ownsRow base 5 1 v l.length (l.map (Value.int .u8))) (hb : IsB w bv body) (hl : l.length ≤ 70368744177664) (hbl : body.length ≤ 2097152) (hbase : base ≤ w.heap.size) :
    Calls Try.prog 58 #[v, .int .u8 k, bv] w (GrowP base v.ownBlock (l ++ frameF k body) w) := by
  obtain ⟨i0, hi0, hz0, hz1, hz2⟩ := info_parts infoU8
  have HI := Lib.hid hi0; have HZ0 := Lib.hid hz0; have HZ1 := Lib.hid hz1; have HZ2 := Lib.hid hz2
  obtain ⟨vo, vc, rfl, -, -, -, -⟩ := own_form ho
  obtain ⟨bo, bc, rfl, -, -, -⟩ := hb.form
  have HF := Lib.hid (rFrame_ok k hk _ body w hb hbl)
  have HR := Lib.hid (frame_rng hk hb.rng)
  have HFL := Lib.hid (frame_le (k := k) hbl)
  have HO := Lib.hid ho
  clear hi0 hz0 hz1 hz2 ho hb
  go_enter Try.func58, Try.ntmps58
  go_wp2_with fail
  refine HF.out.mono ?_
  unfold FramePost
  rintro e w1 ⟨v1, rfl, ho1, hb1⟩
  obtain ⟨fo, fc, rfl, -, -, -, -⟩ := own_form ho1
  have N1 := Lib.hid (IsB.of_own ho1 HR.out)
  have B1 := Lib.hid hb1
  have O1 := Lib.hid (own_below HO.out hb1)
  clear ho1 hb1 HF
  go_wp2_with (at_builtin; refine wpList_append_bytes' (w := w1) (base := base) (.tmp 15) (.tmp 16) _ rfl rfl i0 _ Try.underlying25 HI.out HZ0.out HZ1.out HZ2.out rfl _ l (frameF k body) rfl rfl O1.out N1.out (by have := HFL.out; omega) (Nat.le_trans hbase B1.out.size) ?_; intro v2 w2 ho2 hg2 hk2; have O2 : Hid (w2.ownsRow base 5 1 v2 (l ++ frameF k body).length ((l ++ frameF k body).map (Value.int .u8))) := Lib.hid (by rw [List.length_append]; exact ho2); have G2 : Hid (Chg (fun b => (Value.slice vo l.length vc).ownBlock = some b) w w2) := Lib.hid ((Chg.of_ext B1.out).trans ((Chg.of_grown hg2 (fun b _ e => e)).mono (fun b _ e => e))); have K2 : Hid (v2.ownBlock = (Value.slice vo l.length vc).ownBlock ∨ ∃ b, v2.ownBlock = some b ∧ w.heap.size ≤ b) := Lib.hid (by rcases hk2 with h | h; exact .inl h; exact .inr ⟨_, h, B1.out.size⟩); clear ho2 hg2 hk2)
  go_ret
  exact ⟨_, rfl, O2.out, G2.out, K2.out⟩
def Alike2 (w : World) : List Value → List (List Int) → Prop
  | [], [] => True
  | v :: vs, l :: ls => IsB w v l ∧ Alike2 w vs ls
  | _, _ => False
theorem Alike2.below {w w' : World} (hb : Below w.heap.size w w') : ∀ {vs : List Value} {ls : List (List Int)}, Alike2 w vs ls → Alike2 w' vs ls
  | [], [], _ => trivial
  | _ :: _, _ :: _, h => ⟨h.1.below hb, Alike2.below hb h.2⟩
theorem Alike2.snoc {w : World} {v : Value} {l : List Int} (h : IsB w v l) : ∀ {vs : List Value} {ls : List (List Int)}, Alike2 w vs ls → Alike2 w (vs ++ [v]) (ls ++ [l])
  | [], [], _ => ⟨h, trivial⟩
  | _ :: _, _ :: _, k => ⟨k.1, Alike2.snoc h k.2⟩
theorem Alike2.len {w : World} : ∀ {vs : List Value} {ls : List (List Int)}, Alike2 w vs ls → vs.length = ls.length
  | [], [], _ => rfl
  | _ :: _, _ :: _, h => by simp [Alike2.len h.2]
theorem Alike2.at_ {w : World} : ∀ {vs : List Value} {ls : List (List Int)}, Alike2 w vs ls → ∀ (i : Nat) l, ls[i]? = some l → ∃ v, vs[i]? = some v ∧ IsB w v l
  | [], [], _, i, l, h => by simp at h
  | v :: _, _ :: _, k, 0, l, h => by
    simp only [List.getElem?_cons_zero, Option.some.injEq] at h
    subst h
    exact ⟨v, rfl, k.1⟩
  | _ :: _, _ :: _, k, i + 1, l, h => by
    rw [List.getElem?_cons_succ] at h ⊢
    exact Alike2.at_ k.2 i l h
theorem isBB_own {w : World} {base : Nat} {v : Value} {vs : List Value} {ls : List (List Int)} (ho : w.ownsRow base 25 1 v vs.length vs) (ha : Alike2 w vs ls) : IsBB w v ls := by
  obtain ⟨ao, cap, rfl, h1, h2, h3, h4⟩ := own_form ho
  have hl := ha.len
  refine ⟨ao, cap, by rw [hl], by rw [← hl]; exact h1, by unfold maxLen; omega, fun hn => ⟨List.eq_nil_of_length_eq_zero (by rw [← hl]; exact (h3 hn).1), (h3 hn).2⟩, fun a ha9 _ => ?_⟩
  obtain ⟨e1, -, e3⟩ := h4 a ha9
  refine ⟨by rw [e1], e3, fun i l hi => ?_⟩
  obtain ⟨u, hu, hB⟩ := ha.at_ i l hi
  obtain ⟨g, hg, -, -, hc⟩ := own_cell ho hu
  rw [ha9] at hg
  cases hg
  exact ⟨u, by simpa using hc, hB⟩
def KeysP (ls : List (List Int)) (w : World) (e : Ending) (w' : World) : Prop := ∃ v, e = .returned v ∧ IsBB w' v ls ∧ Below w.heap.size w w'
theorem keys_last (l : List En) (e : En) : (keysF (l ++ [e])).getLast? = some e.1 := by
  rw [keysF_snoc]
  unfold keyStep
  split
  · assumption
  · simp
theorem keys_le : ∀ (l : List En) (ks : List (List Int)), (l.foldl keyStep ks).length ≤ ks.length + l.length
  | [], ks => by simp
  | e :: l, ks => by
    have ih := keys_le l (keyStep ks e)
    have h1 : (keyStep ks e).length ≤ ks.length + 1 := by
      unfold keyStep
      split <;> simp
    simp only [List.foldl_cons, List.length_cons]
    omega
theorem infoSl : (Try.prog.info? 25).map (fun i => (i.zero, i.size, i.bytes)) = some (some (.slice none 0 0), 1, 24) := by kernel_rfl
set_option maxRecDepth 100000 in
set_option maxHeartbeats 8000000 in
theorem keys_any (lv : Value) (l : List En) (w : World) (hl : IsEs w lv l) (hll : l.length ≤ 65536) : Calls Try.prog 45 #[lv] w (KeysP (keysF l) w) := by
  obtain ⟨i0, hi0, hz0, hz1, hz2⟩ := info_parts infoSl
  have HI := Lib.hid hi0; have HZ0 := Lib.hid hz0; have HZ1 := Lib.hid hz1; have HZ2 := Lib.hid hz2
  obtain ⟨lo, lc, rfl, -, -, -⟩ := hl.form
  have HL := Lib.hid hl
  clear hi0 hz0 hz1 hz2 hl
  go_enter Try.func45, Try.ntmps45
  go_wp2_with fail
  go_loopw [3, 4] (fun v i wr => ∃ k : Nat, ∃ vs, k ≤ l.length ∧ i = .int .i64 k ∧ Hid (wr.ownsRow w.heap.size 25 1 v vs.length vs) ∧ Hid (Alike2 w vs (keysF (l.take k))) ∧ Hid (Below w.heap.size w wr)) (fun _ i _ => l.length - (intOf i).toNat)
  case atStart => exact ⟨0, [], Nat.zero_le _, rfl, World.ownsRow_nil _ _ _ _, trivial, Below.refl _ _⟩
  case round =>
    obtain ⟨k, vs, hk, rfl, ho, ha, hb⟩ := hrel
    obtain ⟨vo, vc, rfl, -, -, -, -⟩ := own_form ho.out
    by_cases hkl : k < l.length
    · obtain ⟨b, o, x, kv, vw, hao, cbb, hx, d0, d1, d2, d3, hkv, hvv, hu⟩ := IsEs.at4 HL.out hkl
      subst hao
      obtain ⟨ko, kc, rfl, -, -, -⟩ := hkv.out.form
      have HKV := Lib.hid hkv.out
      have p0 : (k : Int) < l.length := by omega
      have p1 := IntWalk.i64_in ((k : Int) + 1) (by omega)
      have c0 := (hb.out.cell (p := ⟨b, o + k * 4, none⟩) cbb).trans d0
      have zb : b < wr.heap.size := Nat.lt_of_lt_of_le cbb hb.out.size
      have hvl : vs.length ≤ 65536 := by
        have h1 := ha.out.len
        have h2 := keys_le (l.take k) []
        rw [List.length_take] at h2
        unfold keysF at h1
        simp only [List.length_nil] at h2
        omega
      have HTK := Lib.hid (take_snoc' hx.out)
      clear d1 d2 d3 hvv hu
      have ARM : True := trivial
      by_cases hk0 : k = 0
      · subst hk0
        have c00 : wr.cell? ⟨b, o, none⟩ = some (.slice ko x.1.length kc) := by simpa using c0
        have HKS : Hid (keysF (l.take (0 + 1)) = keysF (l.take 0) ++ [x.1]) := Lib.hid (by rw [HTK.out, keysF_snoc]; unfold keyStep; rw [if_neg (by simp [keysF])])
        clear hx hkv hkl
        go_wp2_with fail
        go_quiet (fail)
        go_wp2_with (at_builtin; refine wpList_append_one (base := w.heap.size) (.tmp 29) (.tmp 35) _ rfl rfl i0 _ 24 Try.underlying67 HI.out HZ0.out HZ1.out HZ2.out rfl (.slice ko x.1.length kc) rfl rfl (own_below ho.out (below_drewN (Below.refl _ wr) _)) rfl (by omega) (by omega) (below_drewN hb.out _).size ?_; intro v9 w9 ho9 hb9; have O9 : Hid (w9.ownsRow w.heap.size 25 1 v9 (vs.length + 1) (vs ++ [Value.slice ko x.1.length kc])) := Lib.hid ho9; have G9 : Hid (Below w.heap.size w w9) := Lib.hid ((below_drewN hb.out _).trans hb9); obtain ⟨v9o, v9c, rfl, -, -, -, -⟩ := own_form O9.out; clear ho9 hb9)
        refine ⟨⟨0 + 1, vs ++ [Value.slice ko x.1.length kc], by omega, by go_num, by rw [List.length_append]; exact O9.out, by rw [HKS.out]; exact ha.out.snoc HKV.out, G9.out⟩, ?_⟩
        simp [intOf]
        omega
      · obtain ⟨q, hq⟩ : ∃ q, k = q + 1 := ⟨k - 1, by omega⟩
        obtain ⟨b9, o9, x9, kv9, vw9, hao9, cbb9, hx9, g0, -, -, -, hkv9, -, -⟩ := IsEs.at4 HL.out (k := q) (by omega)
        cases hao9
        obtain ⟨ko9, kc9, rfl, -, -, -⟩ := hkv9.out.form
        have e9 := (hb.out.cell (p := ⟨b, o + q * 4, none⟩) cbb).trans g0
        have p2 : (k : Int) - 1 = (q : Int) := by omega
        have p3 := IntWalk.i64_in (q : Int) (by omega)
        have p4 : (q : Int) < l.length := by omega
        have p5 : (0 : Int) ≤ q := by omega
        have p6 : ((k : Int) == 0) = false := beq_eq_false_iff_ne.2 (by omega)
        have r9 := str_beq hkv9.out.rng hkv.out.rng
        have cx := fun nq => (hkv9.out.below (below_drewN hb.out nq)).conv (P := Try.prog) Try.underlying25 Try.underlying5 Try.underlying9
        have cy := fun nq => (hkv.out.below (below_drewN hb.out nq)).conv (P := Try.prog) Try.underlying25 Try.underlying5 Try.underlying9
        have HLAST : Hid ((keysF (l.take k)).getLast? = some x9.1) := Lib.hid (by rw [hq, take_snoc' hx9.out, keys_last])
        have HQ := Lib.hid hq
        clear hq hk0
        by_cases he : x9.1 = x.1
        · rw [decide_eq_true he] at r9
          have HKS : Hid (keysF (l.take (k + 1)) = keysF (l.take k)) := Lib.hid (by rw [HTK.out, keysF_snoc]; unfold keyStep; rw [HLAST.out, if_pos (by rw [he])])
          clear hx hkv hkl hx9 hkv9 he d0 g0
          go_wp2_with fail
          go_quiet (fail)
          go_wp2_with fail
          refine ⟨⟨k + 1, vs, by omega, by go_num, own_below ho.out (below_drewN (Below.refl _ wr) _), by rw [HKS.out]; exact ha.out, below_drewN hb.out _⟩, ?_⟩
          simp [intOf]
          omega
        · rw [decide_eq_false he] at r9
          have HKS : Hid (keysF (l.take (k + 1)) = keysF (l.take k) ++ [x.1]) := Lib.hid (by rw [HTK.out, keysF_snoc]; unfold keyStep; rw [HLAST.out, if_neg (by intro h; exact he (Option.some.inj h))])
          clear hx hkv hkl hx9 hkv9 he d0 g0
          go_wp2_with fail
          go_quiet (fail)
          go_wp2_with (at_builtin; refine wpList_append_one (base := w.heap.size) (.tmp 29) (.tmp 35) _ rfl rfl i0 _ 24 Try.underlying67 HI.out HZ0.out HZ1.out HZ2.out rfl (.slice ko x.1.length kc) rfl rfl (own_below ho.out (below_drewN (Below.refl _ wr) _)) rfl (by omega) (by omega) (below_drewN hb.out _).size ?_; intro v9 w9 ho9 hb9; have O9 : Hid (w9.ownsRow w.heap.size 25 1 v9 (vs.length + 1) (vs ++ [Value.slice ko x.1.length kc])) := Lib.hid ho9; have G9 : Hid (Below w.heap.size w w9) := Lib.hid ((below_drewN hb.out _).trans hb9); obtain ⟨v9o, v9c, rfl, -, -, -, -⟩ := own_form O9.out; clear ho9 hb9)
          refine ⟨⟨k + 1, vs ++ [Value.slice ko x.1.length kc], by omega, by go_num, by rw [List.length_append]; exact O9.out, by rw [HKS.out]; exact ha.out.snoc HKV.out, G9.out⟩, ?_⟩
          simp [intOf]
          omega
    · have hke : k = l.length := by omega
      subst hke
      have p0 : ¬ ((l.length : Nat) : Int) < l.length := by omega
      clear hkl
      go_wp2_with fail
      go_ret
      have h9 := isBB_own ho.out (ha.out.below hb.out)
      rw [List.take_length] at h9
      exact ⟨_, rfl, h9, hb.out⟩
end Ss
end Go.Proofs.Ytmojbamloanleaa
namespace Go.Proofs.Ytmojbamloanleaa
open Go.RowKit
namespace Ss
open Mt Codec
/-- where a row's block is none of another's -/
def Apart (v u : Value) : Prop := v.ownBlock = none ∨ v.ownBlock ≠ u.ownBlock
theorem Apart.symm {v u : Value} (h : Apart v u) : Apart u v := by
  unfold Apart at *
  cases hu : u.ownBlock with
  | none => exact .inl rfl
  | some b =>
    refine .inr fun e => ?_
    rw [hu] at h
    rcases h with h | h
    · rw [h] at e; cases e
    · exact h e.symm
theorem apart_new {v v' u : Value} {n : Nat} (h : Apart v u) (hv : v'.ownBlock = v.ownBlock ∨ ∃ b, v'.ownBlock = some b ∧ n ≤ b) (hu : ∀ b, u.ownBlock = some b → b < n) : Apart v' u := by
  rcases hv with e | ⟨b, e, hb⟩
  · unfold Apart
    rw [e]
    exact h
  · refine .inr fun e2 => ?_
    rw [e] at e2
    have := hu b e2.symm
    omega
theorem bodyF_take {bl : List En} {j : Nat} {x : En} (h : bl[j]? = some x) : bodyF (bl.take (j + 1)) = ((bodyF (bl.take j)).1 ++ layS (bodyF (bl.take j)).2 x, x.1) := by
  rw [take_snoc' h, bodyF_snoc]
theorem body_len : ∀ (bl : List En) (p : List Int × List Int), (∀ x ∈ bl, mayB x = true) → (bl.foldl (fun p e => (p.1 ++ layS p.2 e, e.1)) p).1.length ≤ p.1.length + 66000 * bl.length
  | [], p, _ => by simp
  | e :: bl, p, h => by
    have ih := body_len bl (p.1 ++ layS p.2 e, e.1) (fun x hx => h x (List.mem_cons_of_mem _ hx))
    have := lay_le (a := p.2) (h e (List.mem_cons_self ..))
    simp only [List.foldl_cons, List.length_cons, List.length_append] at *
    omega
/-- the sums of the first blocks' lengths -/
def atF (d : List (List En)) : Nat := (d.map List.length).sum
theorem atF_snoc (d : List (List En)) (b : List En) : atF (d ++ [b]) = atF d + b.length := by simp [atF]
theorem flat_at : ∀ (d : List (List En)) (i : Nat) (b : List En), d[i]? = some b → ∀ j x, b[j]? = some x → d.flatten[atF (d.take i) + j]? = some x
  | [], i, b, h, _, _, _ => by simp at h
  | c :: d, 0, b, h, j, x, hx => by
    simp only [List.getElem?_cons_zero, Option.some.injEq] at h
    subst h
    simp only [List.take_zero, List.flatten_cons]
    rw [show atF [] = 0 from rfl, Nat.zero_add, List.getElem?_append_left (List.getElem?_eq_some_iff.1 hx).1]
    exact hx
  | c :: d, i + 1, b, h, j, x, hx => by
    rw [List.getElem?_cons_succ] at h
    have ih := flat_at d i b h j x hx
    rw [List.take_succ_cons, List.flatten_cons, List.getElem?_append_right (by simp [atF]; omega)]
    rw [← ih]
    congr 1
    simp [atF]
    omega
/-- all blocks, one behind the other, are the list -/
theorem fold_flat (bb : Int) : ∀ (l : List En) (p : List (List En) × List En), (l.foldl (stepP bb) p).1.flatten ++ (l.foldl (stepP bb) p).2 = p.1.flatten ++ p.2 ++ l
  | [], p => by simp
  | e :: l, p => by
    rw [List.foldl_cons, fold_flat bb l (stepP bb p e)]
    unfold stepP
    split <;> simp
theorem part_flat (bb : Int) (l : List En) : ((partF bb l).1 ++ [(partF bb l).2]).flatten = l := by
  have := fold_flat bb l ([], [])
  simpa [partF] using this
theorem doneF_take {d : List (List En)} {i : Nat} {b : List En} (h : d[i]? = some b) : doneF (d.take (i + 1)) = blkF (doneF (d.take i)) b := by
  rw [take_snoc' h, doneF_snoc]
end Ss
end Go.Proofs.Ytmojbamloanleaa
namespace Go.Proofs.Ytmojbamloanleaa
open Go.RowKit
namespace Ss
open Mt Codec
/-- an entry whose key and value are bytes -/
def RngE (x : En) : Prop := Rng x.1 ∧ Rng x.2.2.2
theorem lay_rng {a : List Int} {x : En} (h : RngE x) : Rng (layS a x) := by
  unfold layS
  refine ((((((numN_rng _).append (numN_rng _)).append (numN_rng _)).append (Rng.cons ?_ Rng.nil)).append (numN_rng _)).append (h.1.drop _)).append h.2
  split <;> omega
theorem body_rng : ∀ (bl : List En) (p : List Int × List Int), Rng p.1 → Rng p.2 → (∀ x ∈ bl, RngE x) → Rng (bl.foldl (fun p e => (p.1 ++ layS p.2 e, e.1)) p).1 ∧ Rng (bl.foldl (fun p e => (p.1 ++ layS p.2 e, e.1)) p).2
  | [], p, h1, h2, _ => ⟨h1, h2⟩
  | e :: bl, p, h1, h2, h => body_rng bl (p.1 ++ layS p.2 e, e.1) (h1.append (lay_rng (h e (List.mem_cons_self ..)))) (h e (List.mem_cons_self ..)).1 (fun x hx => h x (List.mem_cons_of_mem _ hx))
theorem bodyF_rng {bl : List En} (h : ∀ x ∈ bl, RngE x) : Rng (bodyF bl).1 ∧ Rng (bodyF bl).2 := body_rng bl ([], []) Rng.nil Rng.nil h
theorem done_rng : ∀ (d : List (List En)) (p : List Int × List Int), Rng p.1 → Rng p.2 → (∀ b ∈ d, ∀ x ∈ b, RngE x) → Rng (d.foldl blkF p).1 ∧ Rng (d.foldl blkF p).2
  | [], p, h1, h2, _ => ⟨h1, h2⟩
  | b :: d, p, h1, h2, h => by
    obtain ⟨k1, k2⟩ := bodyF_rng (h b (List.mem_cons_self ..))
    exact done_rng d (blkF p b) (h1.append (frame_rng (by omega) k1)) ((((h2.append (numN_rng _)).append (numN_rng _)).append (numN_rng _)).append ((numN_rng _).append k2)) (fun c hc => h c (List.mem_cons_of_mem _ hc))
theorem doneF_rng {d : List (List En)} (h : ∀ b ∈ d, ∀ x ∈ b, RngE x) : Rng (doneF d).1 ∧ Rng (doneF d).2 := done_rng d ([], []) Rng.nil Rng.nil h
theorem isEs_rng {w : World} {v : Value} {l : List En} (h : IsEs w v l) : ∀ x ∈ l, RngE x := by
  intro x hx
  obtain ⟨i, hi⟩ := List.mem_iff_getElem?.1 hx
  obtain ⟨ao, cap, h1, h2, h3, h4, h5⟩ := h
  obtain ⟨b, o, cs, k1, k2, k3, k4, kv, vv, -, h6, h7, h8⟩ := h5 i x hi
  exact ⟨h6.rng, h7.rng⟩
theorem bits_u8_rng (op : BinOp) (x y : Int) : 0 ≤ bits op .u8 x y ∧ bits op .u8 x y ≤ 255 := by
  unfold bits
  simp only [IntKind.wrap, IntKind.bits, IntKind.signed]
  simp
  omega
theorem setBit_rng {f : List Int} {p : Int} (h : Rng f) : Rng (Bloom.setBit f p) := by
  unfold Bloom.setBit
  intro y hy
  rcases List.mem_or_eq_of_mem_set hy with h1 | h1
  · exact h y h1
  · rw [h1]; exact bits_u8_rng _ _ _
theorem setAll_rng {f l : List Int} {m : Int} (h : Rng f) : ∀ k, Rng (Bloom.setAll f l m k)
  | 0 => h
  | k + 1 => by
    rw [Bloom.setAll_succ]
    exact setBit_rng (setAll_rng h k)
theorem fill_rng (m : Int) (p : Nat) : ∀ (ls : List (List Int)) (f : List Int), Rng f → Rng (Bloom.fill ls m p f)
  | [], f, h => h
  | l :: ls, f, h => fill_rng m p ls _ (setAll_rng h p)
theorem make_rng {ls : List (List Int)} {q : Int} (hq : 1 ≤ q ∧ q ≤ 30) : Rng (Bloom.makeF ls q) := by
  unfold Bloom.makeF
  refine fill_rng _ _ _ _ ?_
  intro y hy
  rcases List.mem_or_eq_of_mem_set hy with h1 | h1
  · rw [(List.mem_replicate.1 h1).2]; omega
  · rw [h1]; unfold Bloom.probesF; omega
theorem make_len {ls : List (List Int)} {q : Int} (hq : 1 ≤ q ∧ q ≤ 30) (hl : ls.length ≤ 65536) : (Bloom.makeF ls q).length ≤ 300000 := by
  unfold Bloom.makeF
  rw [Bloom.fill_len, List.length_set, List.length_replicate]
  unfold Bloom.wordsF
  have h1 : (ls.length : Int) * q ≤ 65536 * 30 := Int.mul_le_mul (by omega) hq.2 (by omega) (by omega)
  omega
theorem hi_drop (n : Nat) : (hiB n 8).drop 4 = hiB n 4 := rfl
end Ss
end Go.Proofs.Ytmojbamloanleaa
