/- memtable: the document's examples. -/
import Derived.Test.YtgkgfghmpimaoaaMt13
import Derived.Lib.SlBytesConst
set_option linter.unusedVariables false
set_option linter.unusedSimpArgs false
namespace Go.Proofs.Ytgkgfghmpimaoaa
open Go.RowKit
namespace Mt
theorem rng1 {x : Int} (h : 0 ≤ x ∧ x ≤ 255) : Rng [x] := fun y hy => by rw [List.mem_singleton.1 hy]; exact h
theorem isI_lit (w : World) (a b : Int) (ha : I64 a) (hb : I64 b) : IsI (w.alloc (.cells #[.int .i64 a, .int .i64 b] 3)) (.slice (some ⟨w.heap.size, 0, none⟩) 2 2) [a, b] := by
  refine ⟨_, 2, rfl, Nat.le_refl _, by simp [maxLen], fun h => (by cases h), fun i x hx => ?_⟩
  match i, hx with
  | 0, hx =>
    simp only [List.getElem?_cons_zero, Option.some.injEq] at hx
    subst hx
    refine ⟨_, 0, [.int .i64 a], rfl, by simp, rfl, fun j u hu => ?_, rfl, ha⟩
    match j, hu with
    | 0, hu => simp at hu; subst hu; rw [cell_of_row _ _ _ _ _ _ (heap_alloc_new w _)]; rfl
    | j + 1, hu => simp at hu
  | 1, hx =>
    simp only [List.getElem?_cons_succ, List.getElem?_cons_zero, Option.some.injEq] at hx
    subst hx
    refine ⟨_, 0, [.int .i64 b], rfl, by simp, rfl, fun j u hu => ?_, rfl, hb⟩
    match j, hu with
    | 0, hu => simp at hu; subst hu; rw [cell_of_row _ _ _ _ _ _ (heap_alloc_new w _)]; rfl
    | j + 1, hu => simp at hu
  | i + 2, hx => simp at hx
theorem isB_lit (w : World) (x : Int) (h : 0 ≤ x ∧ x ≤ 255) : IsB (w.alloc (.cells #[.int .u8 x] 5 (1, 2))) (.slice (some ⟨w.heap.size, 0, none⟩) 1 1) [x] := isB_const w [x] (rng1 h) (by simp) _ (1, 2)
/-- a table of the call's own -/
def ShI (w W : World) (tb : Nat) (hs : List Int) (P : Pl) : Prop := ∃ S, TabP S W tb hs P ∧ (∀ b, S b → w.heap.size ≤ b) ∧ Below w.heap.size w W
theorem ShI.below {w W W' : World} {tb : Nat} {hs : List Int} {P : Pl} (h : ShI w W tb hs P) (hb : Below W.heap.size W W') : ShI w W' tb hs P := by
  obtain ⟨S, h1, h2, h3⟩ := h
  exact ⟨S, h1.below hb, h2, bel_call h3 hb⟩
theorem ShI.alloc {w W : World} {tb : Nat} {hs : List Int} {P : Pl} (h : ShI w W tb hs P) (o : Obj) : ShI w (W.alloc o) tb hs P := h.below ((Below.refl _ W).alloc (Nat.le_refl _) o)
theorem ShI.bel {w W : World} {tb : Nat} {hs : List Int} {P : Pl} (h : ShI w W tb hs P) : Below w.heap.size w W := by
  obtain ⟨S, h1, h2, h3⟩ := h
  exact h3
def PutS (w : World) (tb : Nat) (hs : List Int) (c : Int) (P : Pl) (e : Ending) (w' : World) : Prop := e = .returned (.int .i64 c) ∧ ShI w w' tb hs P
theorem sPut {w W : World} {tb : Nat} {hs : List Int} {P : Pl} (h : ShI w W tb hs P) (kv vv : Value) (x : En) (hk : IsB W kv x.1) (hv : IsB W vv x.2.2.2) (hu : U64 x.2.1) (hn : P.length < 1000) {c : Int} {P' : Pl} (hc : putCF P x = c) (hP : putF hs P x = P') :
    Calls Try.prog 21 #[.pointer (some ⟨tb, 0, none⟩), .agg #[kv, .int .u64 x.2.1, .bool x.2.2.1, vv]] W (PutS w tb hs c P') := by
  obtain ⟨S, h1, h2, h3⟩ := h
  refine (tPut S tb hs P kv vv x W h1 hk hv hu hn).mono ?_
  rintro e w' ⟨rfl, q1, q2⟩
  rw [hc]
  rw [hP] at q2
  exact ⟨rfl, _, q2, fun b hb => by
    rcases hb with hb | hb
    · exact h2 b hb
    · exact Nat.le_trans h3.size hb.1, h3.trans (q1.below h3.size (fun b hb hS => by have := h2 b hS; omega))⟩
def NewS (w : World) (hs : List Int) (e : Ending) (w' : World) : Prop := ∃ tb, e = .returned (.pointer (some ⟨tb, 0, none⟩)) ∧ ShI w w' tb hs []
theorem sNew {w W : World} (hb : Below w.heap.size w W) (v : Value) (hs : List Int) (h : IsI W v hs) (hl : hs.length ≤ 17592186044416) : Calls Try.prog 7 #[v] W (NewS w hs) :=
  (tNew v hs W h hl).mono fun e w' ⟨tb, h1, h2, h3⟩ => ⟨tb, h1, _, h2, fun b hS => Nat.le_trans hb.size hS.1, bel_call hb h3⟩
theorem sGet {w W : World} {tb : Nat} {hs : List Int} {P : Pl} (h : ShI w W tb hs P) (kv : Value) (key : List Int) (seq : Int) (hk : IsB W kv key) {r : En × Bool} (hr : getE (P.map (·.1)) (posF (P.map (·.1)) key seq) key = r) :
    Calls Try.prog 9 #[.pointer (some ⟨tb, 0, none⟩), kv, .int .u64 seq] W (GetP r W) := by
  obtain ⟨S, h1, h2, h3⟩ := h
  rw [← hr]
  exact tGet S tb hs P kv key seq W h1 hk
theorem sSteps {w W : World} {tb : Nat} {hs : List Int} {P : Pl} (h : ShI w W tb hs P) (kv : Value) (key : List Int) (seq : Int) (hk : IsB W kv key) {r : Nat} (hr : (lvl (P.map (·.2)) (posF (P.map (·.1)) key seq) 12).1 = r) :
    Calls Try.prog 18 #[.pointer (some ⟨tb, 0, none⟩), kv, .int .u64 seq] W (Ret (.int .i64 r) W) := by
  obtain ⟨S, h1, h2, h3⟩ := h
  rw [← hr]
  exact tSteps S tb hs P kv key seq W h1 hk
theorem sLevel {w W : World} {tb : Nat} {hs : List Int} {P : Pl} (h : ShI w W tb hs P) (i : Int) {l : List En} (hl : levelF P i = l) : Calls Try.prog 16 #[.pointer (some ⟨tb, 0, none⟩), .int .i64 i] W (LevelP l W) := by
  obtain ⟨S, h1, h2, h3⟩ := h
  rw [← hl]
  exact tLevel S tb hs P i W h1
theorem sLen {w W : World} {tb : Nat} {hs : List Int} {P : Pl} (h : ShI w W tb hs P) : Calls Try.prog 23 #[.pointer (some ⟨tb, 0, none⟩)] W (Ret (.int .i64 P.length) W) := by
  obtain ⟨S, h1, h2, h3⟩ := h
  exact tLen h1
theorem sBytes {w W : World} {tb : Nat} {hs : List Int} {P : Pl} (h : ShI w W tb hs P) : Calls Try.prog 25 #[.pointer (some ⟨tb, 0, none⟩)] W (Ret (.int .i64 (bytesE (P.map (·.1)))) W) := by
  obtain ⟨S, h1, h2, h3⟩ := h
  exact tBytes h1
def x1 : En := ([98], 1, false, [])
def x2 : En := ([97], 2, false, [])
def x3 : En := ([98], 5, false, [])
def tab3 : Pl := [(x2, 3), (x3, 1), (x1, 1)]
set_option maxRecDepth 100000 in
set_option maxHeartbeats 4000000 in
theorem shown_any (w : World) : Calls Try.prog 6 #[] w (Ret (.bool true) w) := by
  have kc := fun (w : World) (C : Array Value) (n c : Nat) => Lib.run_convert_bytes_const (P := Try.prog) w 29 5 C n c Try.underlying29 Try.underlying5
  have HC := Lib.hid (sNew (bel_alloc (Below.refl _ w) _) _ [1, 3] (isI_lit w 1 3 (by unfold I64; omega) (by unfold I64; omega)) (by simp))
  go_enter Try.func6, Try.ntmps6
  go_wp2_with fail
  refine HC.out.mono ?_
  rintro e w1 ⟨tb, rfl, h1⟩
  have H1 := Lib.hid h1
  clear h1
  have HP1 := Lib.hid (sPut (H1.out.alloc (.cells #[.int .u8 98] 5 (1, 2))) _ (.slice none 0 0) x1 (isB_lit w1 98 (by omega)) (IsB.nil _) (by unfold U64 x1; decide) (by decide) (c := 0) (P' := [(x1, 1)]) (by decide) (by decide))
  go_wp2_with fail
  refine HP1.out.mono ?_
  rintro e w2 ⟨rfl, h2⟩
  have H2 := Lib.hid h2
  clear h2 HP1
  have HP2 := Lib.hid (sPut (H2.out.alloc (.cells #[.int .u8 97] 5 (1, 2))) _ (.slice none 0 0) x2 (isB_lit w2 97 (by omega)) (IsB.nil _) (by unfold U64 x2; decide) (by decide) (c := 0) (P' := [(x2, 3), (x1, 1)]) (by decide) (by decide))
  go_wp2_with fail
  refine HP2.out.mono ?_
  rintro e w3 ⟨rfl, h3⟩
  have H3 := Lib.hid h3
  clear h3 HP2
  have HP3 := Lib.hid (sPut (H3.out.alloc (.cells #[.int .u8 98] 5 (1, 2))) _ (.slice none 0 0) x3 (isB_lit w3 98 (by omega)) (IsB.nil _) (by unfold U64 x3; decide) (by decide) (c := 0) (P' := tab3) (by decide) (by decide))
  go_wp2_with fail
  refine HP3.out.mono ?_
  rintro e w4 ⟨rfl, h4⟩
  have H4 := Lib.hid h4
  clear h4 HP3
  have HP4 := Lib.hid (sPut (H4.out.alloc (.cells #[.int .u8 98] 5 (1, 2))) _ (.slice none 0 0) x3 (isB_lit w4 98 (by omega)) (IsB.nil _) (by unfold U64 x3; decide) (by decide) (c := 51) (P' := tab3) (by decide) (by decide))
  go_wp2_with fail
  refine HP4.out.mono ?_
  rintro e w5 ⟨rfl, h5⟩
  have H5 := Lib.hid h5
  clear h5 HP4
  have HG := Lib.hid (sGet (H5.out.alloc (.cells #[.int .u8 98] 5 (1, 2))) _ [98] 4 (isB_lit w5 98 (by omega)) (r := (x1, true)) (by decide))
  go_wp2_with fail
  refine HG.out.mono ?_
  unfold GetP
  rintro e w6 ⟨kv6, vv6, rfl, k6, v6, hb⟩
  obtain ⟨ko6, kc6, rfl, -, -, -, -⟩ := k6.form
  obtain ⟨vo6, vc6, rfl, -, -, -, -⟩ := v6.form
  have H6 := Lib.hid ((H5.out.alloc (.cells #[.int .u8 98] 5 (1, 2))).below hb)
  have HL := Lib.hid (sLevel (H6.out.alloc (.cells #[.slice ko6 (x1, true).1.1.length kc6, .int .u64 (x1, true).1.2.1, .bool (x1, true).1.2.2.1, .slice vo6 (x1, true).1.2.2.2.length vc6] 32)) 2 (l := [x2]) (by decide))
  clear k6 v6 hb HG
  go_wp2_with fail
  refine HL.out.mono ?_
  unfold LevelP
  rintro e w7 ⟨v7, rfl, o7, hb⟩
  have H7 := Lib.hid ((H6.out.alloc (.cells #[.slice ko6 (x1, true).1.1.length kc6, .int .u64 (x1, true).1.2.1, .bool (x1, true).1.2.2.1, .slice vo6 (x1, true).1.2.2.2.length vc6] 32)).below hb)
  have s7 : w7.cell? ⟨w6.heap.size, 1, none⟩ = some (.int .u64 1) := (hb.cell (p := ⟨w6.heap.size, 1, none⟩) (by simp)).trans (by go_simp; rfl)
  have O7 := Lib.hid o7
  have l7 := World.block_lt_of_cell? w7 ⟨w6.heap.size, 1, none⟩ s7
  have HS := Lib.hid (sSteps (H7.out.alloc (.cells #[.int .u8 98] 5 (1, 2))) _ [98] 1 (isB_lit w7 98 (by omega)) (r := 3) (by decide))
  obtain ⟨ao7, cap7, rfl, -, -, -⟩ := o7.isEs.form
  clear hb HL
  go_wp2_with fail
  refine HS.out.mono ?_
  rintro e w8 ⟨rfl, hb⟩
  have hb' := bel_call (bel_alloc (Below.refl _ w7) (.cells #[.int .u8 98] 5 (1, 2))) hb
  have H8 := Lib.hid (H7.out.below hb')
  have s8 := (hb'.cell (p := ⟨w6.heap.size, 1, none⟩) l7).trans s7
  have hes := (o7.below hb').isEs
  obtain ⟨b8, o8, y, kv8, vv8, hao, hbb, hy, c0, c1, c2, c3, hkv, hvv, -⟩ := IsEs.at4 hes (k := 0) (by simp)
  subst hao
  have hy' : y = x2 := by have := hy.out; simpa using this.symm
  subst hy'
  have hcv := hkv.out.conv Try.underlying29 Try.underlying5 Try.underlying9
  obtain ⟨ko8, kc8, rfl, -, -, -⟩ := hkv.out.form
  simp only [Nat.zero_mul, Nat.add_zero] at c0
  have hs2 : (strOfNums x2.fst).toList = [97] := by rw [ByteArray.toList_eq, strOfNums_data]; rfl
  have HLN := Lib.hid (sLen H8.out)
  rw [show tab3.length = 3 from rfl] at HLN
  clear hb hb' s7 l7 o7 hes hy hvv HS
  go_wp2_with fail
  refine HLN.out.mono ?_
  rintro e w9 ⟨rfl, hb⟩
  have HBY := Lib.hid (sBytes (H8.out.below hb))
  rw [show bytesE (tab3.map (·.1)) = 51 from by decide] at HBY
  have H9 := Lib.hid (H8.out.below hb)
  clear hb
  go_wp2_with fail
  refine HBY.out.mono ?_
  rintro e w10 ⟨rfl, hb⟩
  have H10 := Lib.hid (H9.out.below hb)
  clear hb
  go_wp2_with fail
  go_ret
  exact ⟨rfl, H10.out.bel⟩
end Mt
end Go.Proofs.Ytgkgfghmpimaoaa
