/- pgwire: PgwireSays (walk of the law). -/
import Derived.Test.YthaekefdadccaaaDoorSy3
import Derived.Test.YthaekefdadccaaaDoorSy4
import Derived.Test.YthaekefdadccaaaDoorSy6
import Derived.Test.YthaekefdadccaaaDoorPsShown
set_option linter.unusedVariables false
set_option linter.unusedSimpArgs false
namespace Go.Proofs.YthaekefdadccaaaDoor
open Go.RowKit
namespace Sy
set_option maxRecDepth 100000 in
theorem shown_any (w : World) : Calls Tryd.prog 11 #[] w (Ret (.bool true) w) := by
  have hc := PM.calls_of_pure Tryd.func11 rfl rfl PM.pShown (w := w) (vs := []) (by unfold PM.RelAs; rfl)
  refine hc.mono ?_
  rintro e w' ⟨v, G', rfl, hb, -, hr⟩
  obtain rfl := hr.bool
  exact ⟨rfl, hb⟩
theorem ite5 {c : Prop} [Decidable c] {a b : ByteArray × ByteArray} (h1 : a.1.size = 5) (h2 : b.1.size = 5) : (if c then a else b).1.size = 5 := by split <;> assumption
theorem said5 (e : Int) : (saidB e).1.size = 5 := by
  unfold saidB worseB
  repeat' first | rfl | refine ite5 ?_ ?_
def valV (ty : Int) (nl : Bool) (n : Int) (tx : ByteArray) : Value := .agg #[.int .i64 ty, .bool nl, .int .i64 n, .string tx]
set_option maxRecDepth 100000 in
set_option maxHeartbeats 4000000 in
theorem says_any (e ty n : Int) (nl : Bool) (tx : ByteArray) (w : World) (h0 : -9223372036854775808 ≤ n) (h1 : n ≤ 9223372036854775807) (hx : tx.size ≤ maxLen) (htab : Lib.TabIs Tryd.prog w "internal/strconv.uint64pow10" .u64 Lib.pow10Tab) :
    Calls Tryd.prog 10 #[.int .i64 e, .agg #[.int .i64 ty, .bool nl, .int .i64 n, .string tx]] w (Ret (.bool true) w) := by
  have HSH := Lib.hid (shown_any (w.alloc (.cells #[.int .i64 ty, .bool nl, .int .i64 n, .string tx] 49)))
  have HS := Lib.hid (fun w => state_any e w)
  have HW := Lib.hid (fun w => words_any e w)
  have HRS := Lib.hid (fun w => rstate_any e w)
  have HRW := Lib.hid (fun w => rwords_any e w)
  have HC := Lib.hid (fun (w' : World) (hb : Below w.heap.size w w') => cell_any ty nl n tx w' h0 h1 hx (Lib.tabBelow_of_tabIs htab w' hb))
  have HRC := Lib.hid (fun w => rcell_any ty nl n tx w h0 h1)
  have h5 := said5 e
  generalize saidB e = s at *
  obtain ⟨s1, s2⟩ := s
  generalize cellP ty nl n tx = c at *
  obtain ⟨c1, c2⟩ := c
  unfold cellV at HC HRC
  simp only at HS HW HRS HRW HC HRC h5
  clear htab
  go_enter Tryd.func10, Tryd.ntmps10
  go_wp2_with fail
  refine HSH.out.mono ?_
  rintro _ w1 ⟨rfl, hb1⟩
  have B1 := Lib.hid (bel_call (bel_alloc (Below.refl _ w) _) hb1)
  have v0 : w1.cell? ⟨w.heap.size, 0, none⟩ = some (.int .i64 ty) := (hb1.cell (p := ⟨w.heap.size, 0, none⟩) (by simp)).trans (by go_simp)
  have v1 : w1.cell? ⟨w.heap.size, 1, none⟩ = some (.bool nl) := (hb1.cell (p := ⟨w.heap.size, 1, none⟩) (by simp)).trans (by go_simp)
  have v2 : w1.cell? ⟨w.heap.size, 2, none⟩ = some (.int .i64 n) := (hb1.cell (p := ⟨w.heap.size, 2, none⟩) (by simp)).trans (by go_simp)
  have v3 : w1.cell? ⟨w.heap.size, 3, none⟩ = some (.string tx) := (hb1.cell (p := ⟨w.heap.size, 3, none⟩) (by simp)).trans (by go_simp)
  have vl : w.heap.size < w1.heap.size := Nat.lt_of_lt_of_le (by simp) hb1.size
  clear hb1
  go_wp2_with fail
  refine (HS.out _).mono ?_
  rintro _ w2 ⟨rfl, hb⟩
  have B2 := Lib.hid (bel_call B1.out hb)
  replace v0 := (hb.cell (p := ⟨w.heap.size, 0, none⟩) vl).trans v0
  replace v1 := (hb.cell (p := ⟨w.heap.size, 1, none⟩) vl).trans v1
  replace v2 := (hb.cell (p := ⟨w.heap.size, 2, none⟩) vl).trans v2
  replace v3 := (hb.cell (p := ⟨w.heap.size, 3, none⟩) vl).trans v3
  replace vl := Nat.lt_of_lt_of_le vl hb.size
  clear hb B1
  go_wp2_with fail
  refine (HW.out _).mono ?_
  rintro _ w3 ⟨rfl, hb⟩
  have B3 := Lib.hid (bel_call B2.out hb)
  replace v0 := (hb.cell (p := ⟨w.heap.size, 0, none⟩) vl).trans v0
  replace v1 := (hb.cell (p := ⟨w.heap.size, 1, none⟩) vl).trans v1
  replace v2 := (hb.cell (p := ⟨w.heap.size, 2, none⟩) vl).trans v2
  replace v3 := (hb.cell (p := ⟨w.heap.size, 3, none⟩) vl).trans v3
  replace vl := Nat.lt_of_lt_of_le vl hb.size
  clear hb B2
  go_wp2_with fail
  refine (HC.out _ B3.out).mono ?_
  rintro _ w4 ⟨rfl, hb⟩
  have B4 := Lib.hid (bel_call B3.out hb)
  replace v0 := (hb.cell (p := ⟨w.heap.size, 0, none⟩) vl).trans v0
  replace v1 := (hb.cell (p := ⟨w.heap.size, 1, none⟩) vl).trans v1
  replace v2 := (hb.cell (p := ⟨w.heap.size, 2, none⟩) vl).trans v2
  replace v3 := (hb.cell (p := ⟨w.heap.size, 3, none⟩) vl).trans v3
  replace vl := Nat.lt_of_lt_of_le vl hb.size
  clear hb B3
  go_wp2_with fail
  refine (HRS.out _).mono ?_
  rintro _ w5 ⟨rfl, hb⟩
  have B5 := Lib.hid (bel_call (bel_alloc B4.out (.cells #[.bool c1, .string c2] 52)) hb)
  have x0 : w5.cell? ⟨w4.heap.size, 0, none⟩ = some (.bool c1) := (hb.cell (p := ⟨w4.heap.size, 0, none⟩) (by simp)).trans (by go_simp)
  have x1 : w5.cell? ⟨w4.heap.size, 1, none⟩ = some (.string c2) := (hb.cell (p := ⟨w4.heap.size, 1, none⟩) (by simp)).trans (by go_simp)
  have xl : w4.heap.size < w5.heap.size := Nat.lt_of_lt_of_le (by simp) hb.size
  have hb' : Below w4.heap.size w4 w5 := bel_call (bel_alloc (Below.refl _ w4) _) hb
  replace v0 := (hb'.cell (p := ⟨w.heap.size, 0, none⟩) vl).trans v0
  replace v1 := (hb'.cell (p := ⟨w.heap.size, 1, none⟩) vl).trans v1
  replace v2 := (hb'.cell (p := ⟨w.heap.size, 2, none⟩) vl).trans v2
  replace v3 := (hb'.cell (p := ⟨w.heap.size, 3, none⟩) vl).trans v3
  replace vl := Nat.lt_of_lt_of_le vl hb'.size
  clear hb hb' B4
  go_wp2_with fail
  refine (HRW.out _).mono ?_
  rintro _ w6 ⟨rfl, hb⟩
  have B6 := Lib.hid (bel_call B5.out hb)
  replace v0 := (hb.cell (p := ⟨w.heap.size, 0, none⟩) vl).trans v0
  replace v1 := (hb.cell (p := ⟨w.heap.size, 1, none⟩) vl).trans v1
  replace v2 := (hb.cell (p := ⟨w.heap.size, 2, none⟩) vl).trans v2
  replace v3 := (hb.cell (p := ⟨w.heap.size, 3, none⟩) vl).trans v3
  replace x0 := (hb.cell (p := ⟨w4.heap.size, 0, none⟩) xl).trans x0
  replace x1 := (hb.cell (p := ⟨w4.heap.size, 1, none⟩) xl).trans x1
  replace vl := Nat.lt_of_lt_of_le vl hb.size
  replace xl := Nat.lt_of_lt_of_le xl hb.size
  clear hb B5
  go_wp2_with fail
  refine (HRC.out _).mono ?_
  rintro _ w7 ⟨rfl, hb⟩
  have B7 := Lib.hid (bel_call B6.out hb)
  replace x0 := (hb.cell (p := ⟨w4.heap.size, 0, none⟩) xl).trans x0
  replace x1 := (hb.cell (p := ⟨w4.heap.size, 1, none⟩) xl).trans x1
  replace xl := Nat.lt_of_lt_of_le xl hb.size
  clear hb B6 v0 v1 v2 v3 vl
  go_wp2_with fail
  go_ret
  refine ⟨rfl, ?_⟩
  exact bel_alloc B7.out _
end Sy
end Go.Proofs.YthaekefdadccaaaDoor
