/- sstable: the document's example, plain; few (walk). sstable: the document's example (walk). sstable: copied: entries in new memory (walk). sstable: arguments that come in: entries. sstable: SstableBuilds (the law, walked). -/
import Derived.Test.YtmojbamloanleaaSs31
import Derived.Test.YtmojbamloanleaaSs26
import Derived.Lib.SmallJoins
import Derived.Test.YtmojbamloanleaaSs19
import Derived.Test.YtmojbamloanleaaSs25
import Derived.Test.YtmojbamloanleaaSsM3
import Derived.Test.YtmojbamloanleaaRead
import Derived.Test.YtmojbamloanleaaSs11
set_option linter.unusedVariables false
set_option linter.unusedSimpArgs false
namespace Go.Proofs.Ytmojbamloanleaa
open Go.RowKit
namespace Ss
open Mt Codec
/-- the document's entries -/
def fewL : List En := [([97], 2, false, [120]), ([97], 1, true, []), ([98], 3, false, [121, 122])]
def fewT : List Int := tabF fewL 64 10
def fewB : List Blk := [(0, 26, fewL)]
def fewF : List Int := (takeFrameF (fewT.drop 26)).2.1
set_option maxRecDepth 100000 in
theorem few_code : codeF fewL 64 10 = 0 := by decide +kernel
set_option maxRecDepth 100000 in
theorem few_len : fewT.length = 93 := by decide +kernel
set_option maxRecDepth 100000 in
theorem few_mid : (fewT.drop 6).take 13 = [0, 1, 2, 0, 1, 97, 120, 1, 0, 1, 1, 0, 0] := by decide +kernel
set_option maxRecDepth 100000 in
theorem few_open : openF fewT = some (fewB, 26) := by kernel_rfl
set_option maxRecDepth 100000 in
theorem few_get1 : getF fewB fewF [97] 1 = (some ([97], 1, true, []), 1) := by decide +kernel
set_option maxRecDepth 100000 in
theorem few_get2 : getF fewB fewF [98] 2 = (none, 1) := by decide +kernel
set_option maxRecDepth 100000 in
theorem few_ok : framR ((fewT.drop 0).take 26) = some fewL := by decide +kernel
set_option maxRecDepth 100000 in
theorem few_fil : fewF.length ≤ 100 := by decide +kernel
def FewP (w : World) (e : Ending) (w' : World) : Prop := ∃ v, e = .returned v ∧ IsEs w' v fewL ∧ Below w.heap.size w w'
set_option maxRecDepth 100000 in
set_option maxHeartbeats 4000000 in
theorem few_any (w : World) : Calls Try.prog 27 #[] w (FewP w) := by
  have kc9 := fun (w : World) (C : Array Value) (n c g : Nat) (hg : g = w.heap.size) => Joins.run_convert_bytes_const_at (P := Try.prog) w 25 5 C n c g hg Try.underlying25 Try.underlying5
  go_enter Try.func27, Try.ntmps27
  go_wp2_with fail
  clear kc9
  go_ret
  have I1 := isB_const w [97] (by unfold Rng; decide) (by decide) 5 (1, 2)
  generalize hW1 : w.alloc (.cells (([97] : List Int).map (Value.int .u8)).toArray 5 (1, 2)) = W1 at I1
  have s1 : W1.heap.size = w.heap.size + 1 := by rw [← hW1]; simp
  have I2 := isB_const W1 [120] (by unfold Rng; decide) (by decide) 5 (1, 2)
  generalize hW2 : W1.alloc (.cells (([120] : List Int).map (Value.int .u8)).toArray 5 (1, 2)) = W2 at I2
  have s2 : W2.heap.size = w.heap.size + 1 + 1 := by rw [← hW2, ← s1]; simp
  have I3 := isB_const W2 [97] (by unfold Rng; decide) (by decide) 5 (1, 2)
  generalize hW3 : W2.alloc (.cells (([97] : List Int).map (Value.int .u8)).toArray 5 (1, 2)) = W3 at I3
  have s3 : W3.heap.size = w.heap.size + 1 + 1 + 1 := by rw [← hW3, ← s2]; simp
  have I4 := isB_const W3 [98] (by unfold Rng; decide) (by decide) 5 (1, 2)
  generalize hW4 : W3.alloc (.cells (([98] : List Int).map (Value.int .u8)).toArray 5 (1, 2)) = W4 at I4
  have s4 : W4.heap.size = w.heap.size + 1 + 1 + 1 + 1 := by rw [← hW4, ← s3]; simp
  have I5 := isB_const W4 [121, 122] (by unfold Rng; decide) (by decide) 5 (2, 3)
  generalize hW5 : W4.alloc (.cells (([121, 122] : List Int).map (Value.int .u8)).toArray 5 (2, 3)) = W5 at I5
  have s5 : W5.heap.size = w.heap.size + 1 + 1 + 1 + 1 + 1 := by rw [← hW5, ← s4]; simp
  have hb : Below w.heap.size w W5 := by
    rw [← hW5, ← hW4, ← hW3, ← hW2, ← hW1]
    exact bel_alloc (bel_alloc (bel_alloc (bel_alloc (bel_alloc (Below.refl _ w) _) _) _) _) _
  have up : ∀ {W : World} {v : Value} {l : List Int} (o : Obj), IsB W v l → IsB (W.alloc o) v l := fun o h => h.alloc o
  replace I1 : IsB W5 (.slice (some ⟨w.heap.size, 0, none⟩) 1 1) [97] := by rw [← hW5, ← hW4, ← hW3, ← hW2]; exact up _ (up _ (up _ (up _ I1)))
  replace I2 : IsB W5 (.slice (some ⟨w.heap.size + 1, 0, none⟩) 1 1) [120] := by rw [← hW5, ← hW4, ← hW3, ← s1]; exact up _ (up _ (up _ I2))
  replace I3 : IsB W5 (.slice (some ⟨w.heap.size + 1 + 1, 0, none⟩) 1 1) [97] := by rw [← hW5, ← hW4, ← s2]; exact up _ (up _ I3)
  replace I4 : IsB W5 (.slice (some ⟨w.heap.size + 1 + 1 + 1, 0, none⟩) 1 1) [98] := by rw [← hW5, ← s3]; exact up _ I4
  replace I5 : IsB W5 (.slice (some ⟨w.heap.size + 1 + 1 + 1 + 1, 0, none⟩) 2 2) [121, 122] := by rw [← s4]; exact I5
  have hG : W5 = ((((w.alloc (.cells #[.int .u8 97] 5 (1, 2))).alloc (.cells #[.int .u8 120] 5 (1, 2))).alloc (.cells #[.int .u8 97] 5 (1, 2))).alloc (.cells #[.int .u8 98] 5 (1, 2))).alloc (.cells #[.int .u8 121, .int .u8 122] 5 (2, 3)) := by
    rw [← hW5, ← hW4, ← hW3, ← hW2, ← hW1]; rfl
  rw [← hG, ← s5]
  have hrow := heap_alloc_new W5 (.cells #[.slice (some ⟨w.heap.size, 0, none⟩) 1 1, .int .u64 2, .bool false, .slice (some ⟨w.heap.size + 1, 0, none⟩) 1 1, .slice (some ⟨w.heap.size + 1 + 1, 0, none⟩) 1 1, .int .u64 1, .bool true, .slice none 0 0, .slice (some ⟨w.heap.size + 1 + 1 + 1, 0, none⟩) 1 1, .int .u64 3, .bool false, .slice (some ⟨w.heap.size + 1 + 1 + 1 + 1, 0, none⟩) 2 2] 46 (0, 0))
  refine ⟨_, rfl, ?_, bel_alloc hb _⟩
  refine ⟨some ⟨W5.heap.size, 0, none⟩, 3, rfl, by decide, by decide, fun h => (by cases h), fun i x hx => ?_⟩
  match i, hx with
  | 0, hx =>
    cases hx
    refine ⟨W5.heap.size, 0, _, rfl, by simp, rfl, fun j u hu => ?_, _, _, rfl, up _ I1, up _ I2, by decide, by decide⟩
    rw [cell_of_row _ _ _ _ _ _ hrow, ← hu]
    match j with
    | 0 => rfl
    | 1 => rfl
    | 2 => rfl
    | 3 => rfl
    | j + 4 => simp at hu
  | 1, hx =>
    cases hx
    refine ⟨W5.heap.size, 0, _, rfl, by simp, rfl, fun j u hu => ?_, _, _, rfl, up _ I3, (OwnS.none (base := 0) (e := 5)).isB, by decide, by decide⟩
    rw [cell_of_row _ _ _ _ _ _ hrow, ← hu]
    match j with
    | 0 => rfl
    | 1 => rfl
    | 2 => rfl
    | 3 => rfl
    | j + 4 => simp at hu
  | 2, hx =>
    cases hx
    refine ⟨W5.heap.size, 0, _, rfl, by simp, rfl, fun j u hu => ?_, _, _, rfl, up _ I4, up _ I5, by decide, by decide⟩
    rw [cell_of_row _ _ _ _ _ _ hrow, ← hu]
    match j with
    | 0 => rfl
    | 1 => rfl
    | 2 => rfl
    | 3 => rfl
    | j + 4 => simp at hu
  | i + 3, hx => simp [fewL] at hx
end Ss
end Go.Proofs.Ytmojbamloanleaa
namespace Go.Proofs.Ytmojbamloanleaa
open Go.RowKit
namespace Ss
open Mt Codec
theorem few_row {rows : List BV} (h : rows.map (·.1) = fewB) : ∃ r, rows = [r] ∧ r.1 = (0, 26, fewL) := by
  match rows, h with
  | [r], h => exact ⟨r, rfl, by simpa [fewB] using h⟩
  | [], h => cases h
  | _ :: _ :: _, h => simp [fewB] at h
set_option maxRecDepth 100000 in
set_option maxHeartbeats 8000000 in
theorem exShown_any (w : World) : Calls Try.prog 8 #[] w (Ret (.bool true) w) := by
  go_enter Try.func8, Try.ntmps8
  go_wp2_with fail
  refine (few_any w).mono ?_
  rintro e w1 ⟨v1, rfl, i1, b1⟩
  have B1 := Lib.hid b1
  have HBU := Lib.hid (build_any v1 fewL 64 10 w1 i1 (by unfold I64; decide) (by unfold I64; decide))
  obtain ⟨lo1, lc1, rfl, -, -, -⟩ := i1.form
  clear b1 i1
  go_wp2_with fail
  refine HBU.out.mono ?_
  unfold BuildP
  rintro e w2 ⟨v2, rfl, o2, b2⟩
  rw [few_code]
  have B2 := Lib.hid (bel_call B1.out b2)
  have O2 : Hid (OwnS w2 w1.heap.size 5 v2 fewT) := Lib.hid o2
  have I2 := Lib.hid O2.out.isB
  obtain ⟨vo2, vc2, rfl, hc2, -, -, -⟩ := O2.out.form
  rw [few_len] at hc2
  obtain ⟨g2, p9, -, rfl, -, -, -, -, -⟩ := I2.out.at_ (k := 0) (by rw [few_len]; decide)
  have HSL : Hid (IsB w2 (.slice (some ⟨g2, p9 + 6, none⟩) 13 (vc2 - 6)) [0, 1, 2, 0, 1, 97, 120, 1, 0, 1, 1, 0, 0]) := Lib.hid (by
    have h1 := isB_suf (ao' := some ⟨g2, p9 + 6, none⟩) (n := 6) (k := fewT.length - 6) (cap' := vc2 - 6) I2.out (by rw [few_len]; decide) rfl rfl (.inr (by rw [Option.map_some, plain_add']))
    have h2 := Codec.IsB.front h1 13 (by rw [List.length_drop, few_len]; decide)
    rw [few_mid] at h2
    exact h2)
  have hne6 : ¬ vc2 = 6 := by omega
  have HOP := Lib.hid (open_any _ fewT w2 I2.out)
  rw [few_len] at I2 O2 HOP ⊢
  have cv := HSL.out.conv (P := Try.prog) Try.underlying25 Try.underlying5 Try.underlying9
  have p1 : (6 : Int) ≤ (vc2 : Int) := by omega
  have p2 : (19 : Int) ≤ (vc2 : Int) := by omega
  have st : ((strOfNums [0, 1, 2, 0, 1, 97, 120, 1, 0, 1, 1, 0, 0]).toList == [0, 1, 2, 0, 1, 97, 120, 1, 0, 1, 1, 0, 0]) = true := by decide +kernel
  clear b2 o2 HBU
  go_wp2_with fail
  refine HOP.out.mono ?_
  unfold OpenP
  rw [few_open]
  rintro e w3 ⟨tb, bv, blv, fv, av, rows, rfl, hrows, h3, b3⟩
  have B3 := Lib.hid (bel_call B2.out b3)
  have H3 := Lib.hid h3
  obtain ⟨r, rfl, hr⟩ := few_row hrows
  have hal : ((allB fewB).length : Int) = 3 := by decide +kernel
  rw [hal] at H3
  have HGET : Hid (∀ (W : World) (kv : Value) (key : List Int) (seq : Int) (rd : Int), OpI w2.heap.size W tb bv blv fv av 3 rd fewT (takeFrameF (fewT.drop 26)).2.1 [r] (allB fewB) → IsB W kv key → U64 seq → 0 ≤ rd ∧ rd ≤ 1000000000000 →
      Calls Try.prog 18 #[.pointer (some ⟨tb, 0, none⟩), kv, .int .u64 seq] W (GetP w2.heap.size tb bv blv fv av fewT (takeFrameF (fewT.drop 26)).2.1 3 rd [r] (allB fewB) (getF fewB fewF key seq) W)) := Lib.hid (fun W kv key seq rd h hk hs hr0 => by
    have h9 := get_any w2.heap.size tb bv blv fv av fewT (takeFrameF (fewT.drop 26)).2.1 3 rd [r] (allB fewB) kv key seq 0 W h rfl (by decide) hk hs
      (fun q hq => by rw [List.mem_singleton] at hq; subst hq; rw [hr]; exact ⟨by decide, by rw [few_len]; decide, few_ok⟩)
      (fun q hq => by rw [List.mem_singleton] at hq; subst hq; rw [hr]; exact ⟨by decide, by decide, by decide⟩)
      (by rw [few_len]; decide) (by rw [few_len]; decide) (Nat.le_trans few_fil (by decide)) hr0
    rw [hrows] at h9
    exact h9)
  have kc9 := fun (w : World) (C : Array Value) (n c g : Nat) (hg : g = w.heap.size) => Joins.run_convert_bytes_const_at (P := Try.prog) w 25 5 C n c g hg Try.underlying25 Try.underlying5
  clear cv st HSL h3 b3 HOP hr hrows hal
  go_wp2_with fail
  have H3a := Lib.hid (H3.out.below ((Below.refl _ w3).alloc (Nat.le_refl _) (.cells #[.int .u8 97] 5 (1, 2))))
  have B3a : Hid (Below w.heap.size w (w3.alloc (.cells #[.int .u8 97] 5 (1, 2)))) := Lib.hid (bel_alloc B3.out _)
  have I3a : Hid (IsB (w3.alloc (.cells #[.int .u8 97] 5 (1, 2))) (.slice (some ⟨w3.heap.size, 0, none⟩) 1 1) [97]) := Lib.hid (isB_const w3 [97] (by unfold Rng; decide) (by decide) 5 (1, 2))
  refine (HGET.out _ _ [97] 1 0 H3a.out I3a.out ⟨by decide, by decide⟩ ⟨by decide, by decide⟩).mono ?_
  unfold GetP
  rw [few_get1]
  rintro e w4 ⟨kv, vv, rfl, ok, ov, -, h4, q4⟩
  simp only [Option.getD_some, Option.isSome_some] at ok ov ⊢
  obtain ⟨ko, kc, rfl, -, -, -, -⟩ := ok.form
  obtain ⟨vo, vc, rfl, -, -, -, -⟩ := ov.form
  have H4 := Lib.hid h4
  have B4 : Hid (Below w.heap.size w w4) := Lib.hid (B3a.out.trans (q4.below B3a.out.size (fun b hb e => by subst e; have := H3.out.bw; have := B2.out.size; omega)))
  clear ok ov h4 q4 H3a I3a B3a
  go_wp2_with fail
  clear kc9
  have H4a := Lib.hid ((H4.out.below ((Below.refl _ w4).alloc (Nat.le_refl _) (.cells #[.slice ko 1 kc, .int .u64 1, .bool true, .slice vo 0 vc] 46))).below ((Below.refl _ _).alloc (Nat.le_refl _) (.cells #[.int .u8 98] 5 (1, 2))))
  have B4a : Hid (Below w.heap.size w ((w4.alloc (.cells #[.slice ko 1 kc, .int .u64 1, .bool true, .slice vo 0 vc] 46)).alloc (.cells #[.int .u8 98] 5 (1, 2)))) := Lib.hid (bel_alloc (bel_alloc B4.out _) _)
  have I4a : Hid (IsB ((w4.alloc (.cells #[.slice ko 1 kc, .int .u64 1, .bool true, .slice vo 0 vc] 46)).alloc (.cells #[.int .u8 98] 5 (1, 2))) (.slice (some ⟨w4.heap.size + 1, 0, none⟩) 1 1) [98]) := Lib.hid (by
    have := isB_const (w4.alloc (.cells #[.slice ko 1 kc, .int .u64 1, .bool true, .slice vo 0 vc] 46)) [98] (by unfold Rng; decide) (by decide) 5 (1, 2)
    rw [World.size_alloc] at this
    exact this)
  have X4a : Hid (((w4.alloc (.cells #[.slice ko 1 kc, .int .u64 1, .bool true, .slice vo 0 vc] 46)).alloc (.cells #[.int .u8 98] 5 (1, 2))).heap[w4.heap.size]? = some (.cells #[.slice ko 1 kc, .int .u64 1, .bool true, .slice vo 0 vc] 46 (0, 0))) := Lib.hid (by
    rw [Below.heap_alloc _ _ _ (by simp <;> omega)]
    exact heap_alloc_new w4 _)
  refine (HGET.out _ _ [98] 2 1 H4a.out I4a.out ⟨by decide, by decide⟩ ⟨by decide, by decide⟩).mono ?_
  unfold GetP
  rw [few_get2]
  rintro e w5 ⟨kv, vv, rfl, ok, ov, -, h5, q5⟩
  simp only [Option.getD_none, Option.isSome_none, zeroE] at ok ov ⊢
  obtain ⟨k5o, k5c, rfl, -, -, -, -⟩ := ok.form
  obtain ⟨v5o, v5c, rfl, -, -, -, -⟩ := ov.form
  have H5 := Lib.hid h5
  have B5 : Hid (Below w.heap.size w w5) := Lib.hid (B4a.out.trans (q5.below B4a.out.size (fun b hb e => by subst e; have := H3.out.bw; have := B2.out.size; omega)))
  have X5 : Hid (w5.heap[w4.heap.size]? = some (.cells #[.slice ko 1 kc, .int .u64 1, .bool true, .slice vo 0 vc] 46 (0, 0))) := Lib.hid ((q5.block _ (Array.getElem?_eq_some_iff.1 X4a.out).1 (fun e => by have := H4.out.lt; omega)).trans X4a.out)
  generalize w4.heap.size = xb at X5 ⊢
  clear ok ov h5 q5 H4a I4a B4a X4a HGET
  have H5a := Lib.hid (H5.out.below ((Below.refl _ w5).alloc (Nat.le_refl _) (.cells #[.slice k5o 0 k5c, .int .u64 0, .bool false, .slice v5o 0 v5c] 46)))
  have B5a : Hid (Below w.heap.size w (w5.alloc (.cells #[.slice k5o 0 k5c, .int .u64 0, .bool false, .slice v5o 0 v5c] 46))) := Lib.hid (bel_alloc B5.out _)
  have X5a : Hid ((w5.alloc (.cells #[.slice k5o 0 k5c, .int .u64 0, .bool false, .slice v5o 0 v5c] 46)).heap[xb]? = some (.cells #[.slice ko 1 kc, .int .u64 1, .bool true, .slice vo 0 vc] 46 (0, 0))) := Lib.hid (by
    rw [Below.heap_alloc _ _ _ (Array.getElem?_eq_some_iff.1 X5.out).1]
    exact X5.out)
  go_wp2_with fail
  refine (count_any _ _ _ _ _ _ _ _ _ _ _ _ _ H5a.out).mono ?_
  rintro e w6 ⟨rfl, b6⟩
  have H6 := Lib.hid (H5a.out.below b6)
  have B6 := Lib.hid (bel_call B5a.out b6)
  have X6 := Lib.hid ((b6.block _ (Array.getElem?_eq_some_iff.1 X5a.out).1).trans X5a.out)
  clear b6 H5a B5a X5a
  go_wp2_with fail
  refine (blocks_any _ _ _ _ _ _ _ _ _ _ _ _ _ H6.out).mono ?_
  rintro e w7 ⟨rfl, b7⟩
  have B7 := Lib.hid (bel_call B6.out b7)
  have x1 : w7.cell? ⟨xb, 1, none⟩ = some (.int .u64 1) := (cell_of_row _ _ 1 _ _ _ ((b7.block _ (Array.getElem?_eq_some_iff.1 X6.out).1).trans X6.out)).trans rfl
  have x2 : w7.cell? ⟨xb, 2, none⟩ = some (.bool true) := (cell_of_row _ _ 2 _ _ _ ((b7.block _ (Array.getElem?_eq_some_iff.1 X6.out).1).trans X6.out)).trans rfl
  clear b7 H6 B6 X6
  go_wp2_with fail
  go_ret
  exact ⟨rfl, B7.out⟩
end Ss
end Go.Proofs.Ytmojbamloanleaa
namespace Go.Proofs.Ytmojbamloanleaa
open Go.RowKit
namespace Ss
open Mt Codec
/-- what the loop of copied keeps -/
structure CpI (w W : World) (l : List En) (k : Nat) (ov : Value) (rs : List EV) : Prop where
  row : W.ownsRow w.heap.size 46 4 ov k (rs.flatMap c4)
  good : ∀ r ∈ rs, GoodE W w.heap.size r
  map : rs.map (·.1) = l.take k
  bel : Below w.heap.size w W
theorem CpI.below {w W W' : World} {l : List En} {k : Nat} {ov : Value} {rs : List EV} (h : CpI w W l k ov rs) (hb : Below W.heap.size W W') : CpI w W' l k ov rs :=
  ⟨own_below h.row hb, fun r hr => (h.good r hr).below hb, h.map, bel_call h.bel hb⟩
theorem CpI.push {w W W' : World} {l : List En} {k : Nat} {ov ov' : Value} {rs : List EV} {x : En} {kv vv : Value} (h : CpI w W l k ov rs) (hx : l[k]? = some x) (hk : OwnS W w.heap.size 5 kv x.1) (hv : OwnS W w.heap.size 5 vv x.2.2.2) (hu : U64 x.2.1)
    (h1 : W'.ownsRow w.heap.size 46 4 ov' (k + 1) (rs.flatMap c4 ++ c4 (x, kv, vv))) (c : W.grownBy W' ov.ownBlock) : CpI w W' l (k + 1) ov' (rs ++ [(x, kv, vv)]) := by
  refine ⟨?_, fun s hs => ?_, by rw [List.map_append, h.map, take_snoc' hx]; rfl, ?_⟩
  · rw [List.flatMap_append, List.flatMap_cons, List.flatMap_nil, List.append_nil]
    exact h1
  · rcases List.mem_append.1 hs with hs | hs
    · exact (h.good s hs).grown h.row c
    · rw [List.mem_singleton] at hs
      subst hs
      exact GoodE.grown (r := (x, kv, vv)) ⟨hk, hv, hu⟩ h.row c
  · exact h.bel.trans ((Chg.of_grown c (S := fun b => ov.ownBlock = some b) (fun _ _ h => h)).below h.bel.size (fun b hb e => by have := (h.row.lt b e).1; omega))
def CopiedP (l : List En) (w : World) (e : Ending) (w' : World) : Prop := ∃ v, e = .returned v ∧ OwnEs w' w.heap.size v l ∧ Below w.heap.size w w'
set_option maxRecDepth 100000 in
set_option maxHeartbeats 8000000 in
theorem copied_any (lv : Value) (l : List En) (w : World) (h : IsEs w lv l) (hl : l.length ≤ 2199023255550) (hs : ∀ x ∈ l, Short x) : Calls Try.prog 9 #[lv] w (CopiedP l w) := by
  obtain ⟨i0, hi0, hz0, hz1, hz2⟩ := info_parts infoEn
  have HI := Lib.hid hi0; have HZ0 := Lib.hid hz0; have HZ1 := Lib.hid hz1; have HZ2 := Lib.hid hz2
  obtain ⟨lo, lc, rfl, -, -, -⟩ := h.form
  have HL := Lib.hid h
  have HSH := Lib.hid hs
  clear hi0 hz0 hz1 hz2 h hs
  go_enter Try.func9, Try.ntmps9
  go_wp2_with fail
  go_loopw [3, 4] (fun av iv wr => ∃ (k : Nat) (rs : List EV), iv = .int .i64 k ∧ k ≤ l.length ∧ Hid (CpI w wr l k av rs)) (fun _ iv _ => l.length - (intOf iv).toNat)
  case atStart => exact ⟨0, [], rfl, Nat.zero_le _, Lib.hid ⟨World.ownsRow_nil _ _ _ _, fun r hr => (by cases hr), by simp, Below.refl _ _⟩⟩
  case round =>
    obtain ⟨k, rs, rfl, hk, hc⟩ := hrel
    obtain ⟨oo, oc, rfl, -, -, -, -⟩ := own_form hc.out.row
    by_cases hkl : k < l.length
    · obtain ⟨b, o, x, kv, vv, hao, cbb, hx, xd0, xd1, xd2, xd3, hkv, hvv, hu⟩ := IsEs.at4 HL.out hkl
      subst hao
      have HU := Lib.hid hu
      obtain ⟨xko, xkc, rfl, -, -, -⟩ := hkv.out.form
      obtain ⟨xvo, xvc, rfl, -, -, -⟩ := hvv.out.form
      have p0 : (k : Int) < l.length := by omega
      have p1 := IntWalk.i64_in ((k : Int) + 1) (by omega)
      have p2 : (0 : Int) ≤ (k : Int) := by omega
      have p3 := IntWalk.i64_in (k : Int) (by omega)
      have x0 : wr.cell? ⟨b, o + k * 4, none⟩ = some (.slice xko x.1.length xkc) := (hc.out.bel.cell (p := ⟨b, o + k * 4, none⟩) cbb).trans xd0
      have x1 : wr.cell? ⟨b, o + k * 4 + 1, none⟩ = some (.int .u64 x.2.1) := (hc.out.bel.cell (p := ⟨b, o + k * 4 + 1, none⟩) cbb).trans xd1
      have x2 : wr.cell? ⟨b, o + k * 4 + 2, none⟩ = some (.bool x.2.2.1) := (hc.out.bel.cell (p := ⟨b, o + k * 4 + 2, none⟩) cbb).trans xd2
      have x3 : wr.cell? ⟨b, o + k * 4 + 3, none⟩ = some (.slice xvo x.2.2.2.length xvc) := (hc.out.bel.cell (p := ⟨b, o + k * 4 + 3, none⟩) cbb).trans xd3
      have HCP := Lib.hid (copy_any _ _ x wr (hkv.out.below hc.out.bel) (hvv.out.below hc.out.bel) (HSH.out x (List.mem_of_getElem? hx.out)))
      go_wp2_with fail
      refine HCP.out.mono ?_
      unfold OwnP
      rintro e w2 ⟨kv, vv, rfl, ok, ov, b2⟩
      have OK := Lib.hid (ok.mono hc.out.bel.size)
      have OW := Lib.hid (ov.mono hc.out.bel.size)
      have HC2 := Lib.hid (hc.out.below b2)
      obtain ⟨ko, kc, rfl, -, -, -, -⟩ := ok.form
      obtain ⟨vo, vc, rfl, -, -, -, -⟩ := ov.form
      have HWB : Hid (Below w2.heap.size w2 (w2.alloc (.cells #[.slice ko x.1.length kc, .int .u64 x.2.1, .bool x.2.2.1, .slice vo x.2.2.2.length vc] 46))) := Lib.hid ((Below.refl _ w2).alloc (Nat.le_refl _) _)
      have HA := Lib.hid (HC2.out.below HWB.out)
      clear ok ov b2 x0 x1 x2 x3 xd0 xd1 xd2 xd3 HCP hkv hvv
      go_wp2_with (at_builtin; refine wpList_append_cells (w := w2.alloc (.cells #[.slice ko x.1.length kc, .int .u64 x.2.1, .bool x.2.2.1, .slice vo x.2.2.2.length vc] 46)) (base := w.heap.size) (size := 4) (n := k) (xs := rs.flatMap c4) (.tmp 17) (.tmp 19) _ rfl rfl i0 _ 64 Try.underlying22 HI.out HZ0.out HZ1.out HZ2.out rfl (by decide) [.slice ko x.1.length kc, .int .u64 x.2.1, .bool x.2.2.1, .slice vo x.2.2.2.length vc] rfl (by intro u hu; simp only [List.mem_cons, List.not_mem_nil, or_false] at hu; rcases hu with rfl | rfl | rfl | rfl <;> rfl) rfl (by rw [World.size_alloc]; rfl) HA.out.row (by omega) (by omega) HA.out.bel.size ?_; intro v3 w3 ho3 hg3 hk3; have H3 := Lib.hid (HA.out.push hx.out (OK.out.below HWB.out) (OW.out.below HWB.out) HU.out ho3 hg3); obtain ⟨vo3, vc3, rfl, -, -, -, -⟩ := own_form ho3; clear ho3 hg3 hk3)
      go_roundw
      case rel => exact ⟨k + 1, _, by go_num, by omega, H3⟩
      case measure => simp [intOf] <;> omega
    · have hkk : k = l.length := by omega
      subst hkk
      have p0 : ¬ ((l.length : Int) < (l.length : Int)) := by omega
      go_wp2_with fail
      go_ret
      exact ⟨_, rfl, ⟨rs, by rw [hc.out.map, List.take_length], hc.out.row, hc.out.good⟩, hc.out.bel⟩
end Ss
end Go.Proofs.Ytmojbamloanleaa
namespace Go.Proofs.Ytmojbamloanleaa
open Go.RowKit
namespace Ss
open Mt
abbrev ensTy : Ty := (.sl 64 (.st (.fcons 0 (.sl 1 (.int .u8)) (.fcons 1 (.int .u64) (.fcons 2 .bool (.fcons 3 (.sl 1 (.int .u8)) .fnil))))))
theorem ensMt : Mt Try.prog ensTy (.inl 22) := ⟨_, Try.underlying22, by kernel_rfl, ⟨by decide, by kernel_rfl⟩, ⟨_, Try.underlying46, by kernel_rfl, ⟨_, rfl, rfl, ⟨_, Try.underlying25, by kernel_rfl, ⟨by decide, by kernel_rfl⟩, ⟨Try.underlying5, by kernel_rfl⟩⟩, ⟨_, rfl, rfl, ⟨Try.underlying44, by kernel_rfl⟩, ⟨_, rfl, rfl, ⟨Try.underlying4, by kernel_rfl⟩, ⟨_, rfl, rfl, ⟨_, Try.underlying25, by kernel_rfl, ⟨by decide, by kernel_rfl⟩, ⟨Try.underlying5, by kernel_rfl⟩⟩, trivial⟩⟩⟩⟩⟩⟩
theorem u64_of_wf {n : Int} (h : (Lit.int .u64 n).wf = true) : U64 n := by
  unfold U64
  simpa [Lit.wf, IntKind.min, IntKind.max, IntKind.signed, IntKind.bits] using h
abbrev ExD : Type := List Int × Int × Bool × List Int × Unit
def toE (x : ExD) : En := (x.1, x.2.1, x.2.2.1, x.2.2.2.1)
theorem es_open {w : World} {v : Value} {l : List ExD} (h : Rd w ensTy [v] l) (hf : Fits reachBytes ensTy l) : ∃ l : List En, IsEs w v l ∧ l.length ≤ 2199023255550 ∧ ∀ x ∈ l, Short x := by
  obtain ⟨f1, f2⟩ := Fits.sl' hf
  refine ⟨l.map toE, ?_, ?_, fun x hx => ?_⟩
  · obtain ⟨ao, cap, h1, h2, h3, h4, h5⟩ := Rd.sl' h
    simp only [List.cons.injEq, and_true] at h1
    refine ⟨ao, cap, by rw [List.length_map]; exact h1, by rw [List.length_map]; exact h2, h3, fun hn => ⟨by rw [List.eq_nil_of_length_eq_zero (h4 hn).1]; rfl, (h4 hn).2⟩, fun i x hx => ?_⟩
    rw [List.getElem?_map, Option.map_eq_some_iff] at hx
    obtain ⟨y, hy, rfl⟩ := hx
    obtain ⟨b, o, cs, k1, k2, k3, k4, k5⟩ := h5 i y hy
    have k3' : cs.length = 4 := k3
    match cs, k3' with
    | [c0, c1, c2, c3], _ =>
      obtain ⟨_, q⟩ := Rd.st' k5
      obtain ⟨q0, q⟩ := Rd.fc q
      obtain ⟨q1, q⟩ := Rd.fc q
      obtain ⟨q2, q⟩ := Rd.fc q
      obtain ⟨q3, _⟩ := Rd.fc q
      obtain ⟨e1, w1⟩ := Rd.int' q1
      have e2 := Rd.bool' q2
      have e1' : [c1] = [.int .u64 y.2.1] := e1
      have e2' : [c2] = [.bool y.2.2.1] := e2
      cases e1'
      cases e2'
      exact ⟨b, o, _, k1, k2, rfl, fun j u hu => k4 j u hu, c0, c3, rfl, isB_of_rd q0, isB_of_rd q3, u64_of_wf w1⟩
  · rw [List.length_map]
    have f1' : List.length (α := ExD) l * 64 ≤ 140737488351232 := f1
    omega
  · obtain ⟨y, hy, rfl⟩ := List.mem_map.1 hx
    obtain ⟨i, hi⟩ := List.mem_iff_getElem?.1 hy
    have f := Fits.st' (f2 i y hi)
    obtain ⟨g0, f⟩ := Fits.fc f
    obtain ⟨-, f⟩ := Fits.fc f
    obtain ⟨-, f⟩ := Fits.fc f
    obtain ⟨g3, -⟩ := Fits.fc f
    obtain ⟨m0, -⟩ := Fits.sl' g0
    obtain ⟨m3, -⟩ := Fits.sl' g3
    have m0' : List.length (α := Int) y.1 * 1 ≤ 140737488351232 := m0
    have m3' : List.length (α := Int) y.2.2.2.1 * 1 ≤ 140737488351232 := m3
    unfold Short toE
    simp only
    omega
end Ss
end Go.Proofs.Ytmojbamloanleaa
namespace Go.Proofs.Ytmojbamloanleaa
open Go.RowKit
namespace Ss
open Mt Codec
set_option maxRecDepth 100000 in
set_option maxHeartbeats 8000000 in
theorem builds_any (lv : Value) (l : List En) (bb pk : Int) (w : World) (h : IsEs w lv l) (hl : l.length ≤ 2199023255550) (hs : ∀ x ∈ l, Short x) (hbb : I64 bb) (hpk : I64 pk) : Calls Try.prog 3 #[lv, .int .i64 bb, .int .i64 pk] w (Ret (.bool true) w) := by
  obtain ⟨lo, lc, rfl, -, -, -⟩ := h.form
  have HL := Lib.hid h
  have HSH := Lib.hid hs
  have HBB := Lib.hid hbb
  have HPK := Lib.hid hpk
  clear h hs hbb hpk
  go_enter Try.func3, Try.ntmps3
  go_wp2_with fail
  refine (exShown_any w).mono ?_
  rintro e w1 ⟨rfl, b1⟩
  have B1 := Lib.hid b1
  clear b1
  go_wp2_with fail
  refine (copied_any _ l w1 (IsL.below enR_stays HL.out B1.out) hl HSH.out).mono ?_
  rintro e w2 ⟨v2, rfl, o2, b2⟩
  have O2 := Lib.hid o2
  have B2 := Lib.hid (bel_call B1.out b2)
  obtain ⟨co, cc, rfl, -, -, -⟩ := o2.isEs.form
  clear o2 b2
  go_wp2_with fail
  refine (rbuild_any _ l bb pk w2 (IsL.below enR_stays HL.out B2.out) HBB.out HPK.out).mono ?_
  unfold BuildP
  rintro e w3 ⟨v3, rfl, o3, b3⟩
  have O3 := Lib.hid o3
  have B3 := Lib.hid (bel_call B2.out b3)
  have C3 := Lib.hid (O2.out.below b3)
  obtain ⟨ro, rc, rfl, -, -, -, -⟩ := o3.form
  clear o3 b3 O2
  go_wp2_with fail
  refine (build_any _ l bb pk w3 C3.out.isEs HBB.out HPK.out).mono ?_
  unfold BuildP
  rintro e w4 ⟨v4, rfl, o4, b4⟩
  have O4 := Lib.hid o4
  have B4 := Lib.hid (bel_call B3.out b4)
  have C4 := Lib.hid (C3.out.below b4)
  have O3' := Lib.hid (O3.out.below b4)
  obtain ⟨po, pc, rfl, -, -, -, -⟩ := o4.form
  clear o4 b4 C3 O3
  go_wp2_with fail
  refine (same_any _ _ l l w4 C4.out.isEs (IsL.below enR_stays HL.out B4.out)).mono ?_
  rintro e w5 ⟨rfl, b5⟩
  have B5 := Lib.hid (bel_call B4.out b5)
  have c1 := (O3'.out.below b5).isB.conv (P := Try.prog) Try.underlying25 Try.underlying5 Try.underlying9
  have c2 := (O4.out.below b5).isB.conv (P := Try.prog) Try.underlying25 Try.underlying5 Try.underlying9
  rw [decide_eq_true (rfl : l = l)]
  generalize (tabF l bb pk).length = TL at c1 c2 ⊢
  generalize strOfNums (tabF l bb pk) = S at c1 c2 ⊢
  generalize codeF l bb pk = c
  clear b5 C4 O3' O4
  go_wp2_with fail
  go_ret
  exact ⟨rfl, B5.out⟩
end Ss
end Go.Proofs.Ytmojbamloanleaa
