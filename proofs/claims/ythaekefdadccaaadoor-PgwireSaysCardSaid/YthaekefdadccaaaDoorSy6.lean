/- pgwire: a value as text (walks). -/
import Derived.Test.YthaekefdadccaaaDoorSy1
import Derived.Test.YthaekefdadccaaaDoorSy5
import Derived.Test.YthaekefdadccaaaDoorLays
import Derived.Lib.AppendIntMem
set_option linter.unusedVariables false
set_option linter.unusedSimpArgs false
namespace Go.Proofs.YthaekefdadccaaaDoor
open Go.RowKit
namespace Sy
def cellP (ty : Int) (nl : Bool) (n : Int) (tx : ByteArray) : Bool × ByteArray := if nl = true then (true, ⟨#[]⟩) else (false, if ty = 1 then ⟨(Lib.itoa n).toArray⟩ else if ty = 2 then (if n = 1 then ⟨#[116]⟩ else ⟨#[102]⟩) else tx)
def cellV (p : Bool × ByteArray) : Value := .agg #[.bool p.1, .string p.2]
theorem below_grow9 (w : World) (k : Nat) (os : Array Obj) : Below w.heap.size w (Sort.grow (w.drewN k) os) :=
  ⟨rfl, rfl, rfl, by simp [Sort.grow, World.drewN], fun i hi => by
    show (w.heap ++ os)[i]? = w.heap[i]?
    rw [Array.getElem?_append_left hi]⟩
set_option maxRecDepth 100000 in
set_option maxHeartbeats 4000000 in
theorem rcell_any (ty : Int) (nl : Bool) (n : Int) (tx : ByteArray) (w : World) (h0 : -9223372036854775808 ≤ n) (h1 : n ≤ 9223372036854775807) : Calls Tryd.prog 27 #[.agg #[.int .i64 ty, .bool nl, .int .i64 n, .string tx]] w (Ret (cellV (cellP ty nl n tx)) w) := by
  cases nl with
  | true =>
    go_enter Tryd.func27, Tryd.ntmps27
    go_wp2_with fail
    refine bodyPost_ret (v := .agg #[.bool true, .string ⟨#[]⟩]) (by first | (simp [results, Tryd.results27, go_sem]; done) | (simp [results, Tryd.results27, go_sem]; go_simp)) rfl ⟨rfl, ?_⟩
    have hW := Below.refl w.heap.size w
    exact (by repeat' (first | (with_reducible exact Below.refl _ _) | (with_reducible assumption) | (with_reducible refine Below.drew ?_) | (with_reducible refine below_drewN ?_ _) | (with_reducible refine bel_alloc ?_ _) | (with_reducible refine Below.setCell ?_ ?_ _) | (with_reducible refine bel_call ?_ (by assumption)) | (simp <;> omega)))
  | false =>
    by_cases k1 : ty = 1
    · subst k1
      have HD := Lib.hid (fun w => digits_any n w h0 h1)
      go_enter Tryd.func27, Tryd.ntmps27
      go_wp2_with fail
      refine (HD.out _).mono ?_
      unfold DigP
      rintro e w1 ⟨rfl, hb1⟩
      have HB : Hid (Below w.heap.size w w1) := Lib.hid (bel_call (bel_alloc (bel_alloc (Below.refl _ w) _) _) hb1)
      have z0 : w1.cell? ⟨w.heap.size + 1, 0, none⟩ = some (.bool false) := (hb1.cell (p := ⟨w.heap.size + 1, 0, none⟩) (by simp)).trans (by go_simp)
      have f0 : w1.frozen? ⟨w.heap.size + 1, 0, none⟩ = false := (hb1.frozen (p := ⟨w.heap.size + 1, 0, none⟩) (by simp)).trans (by go_simp)
      have z1 : w1.cell? ⟨w.heap.size + 1, 1, none⟩ = some (.string ⟨#[]⟩) := (hb1.cell (p := ⟨w.heap.size + 1, 1, none⟩) (by simp)).trans (by go_simp)
      have f1 : w1.frozen? ⟨w.heap.size + 1, 1, none⟩ = false := (hb1.frozen (p := ⟨w.heap.size + 1, 1, none⟩) (by simp)).trans (by go_simp)
      clear hb1
      go_wp2_with fail
      refine bodyPost_ret (v := .agg #[.bool false, .string ⟨(Lib.itoa n).toArray⟩]) (by first | (simp [results, Tryd.results27, go_sem]; done) | (simp [results, Tryd.results27, go_sem]; go_simp)) rfl ⟨rfl, ?_⟩
      have hB := HB.out
      exact (by repeat' (first | (with_reducible exact Below.refl _ _) | (with_reducible assumption) | (with_reducible refine Below.drew ?_) | (with_reducible refine below_drewN ?_ _) | (with_reducible refine bel_alloc ?_ _) | (with_reducible refine Below.setCell ?_ ?_ _) | (with_reducible refine bel_call ?_ (by assumption)) | (simp <;> omega)))
    · by_cases k2 : ty = 2
      · subst k2
        by_cases k3 : n = 1
        · subst k3
          go_enter Tryd.func27, Tryd.ntmps27
          go_wp2_with fail
          refine bodyPost_ret (v := .agg #[.bool false, .string ⟨#[116]⟩]) (by first | (simp [results, Tryd.results27, go_sem]; done) | (simp [results, Tryd.results27, go_sem]; go_simp)) rfl ⟨rfl, ?_⟩
          have hW := Below.refl w.heap.size w
          exact (by repeat' (first | (with_reducible exact Below.refl _ _) | (with_reducible assumption) | (with_reducible refine Below.drew ?_) | (with_reducible refine below_drewN ?_ _) | (with_reducible refine bel_alloc ?_ _) | (with_reducible refine Below.setCell ?_ ?_ _) | (with_reducible refine bel_call ?_ (by assumption)) | (simp <;> omega)))
        · have e9 : cellP 2 false n tx = (false, ⟨#[102]⟩) := by simp [cellP, k3]
          have b3 : (n == 1) = false := by simp [k3]
          rw [e9]
          go_enter Tryd.func27, Tryd.ntmps27
          go_wp2_with fail
          refine bodyPost_ret (v := .agg #[.bool false, .string ⟨#[102]⟩]) (by first | (simp [results, Tryd.results27, go_sem]; done) | (simp [results, Tryd.results27, go_sem]; go_simp)) rfl ⟨rfl, ?_⟩
          have hW := Below.refl w.heap.size w
          exact (by repeat' (first | (with_reducible exact Below.refl _ _) | (with_reducible assumption) | (with_reducible refine Below.drew ?_) | (with_reducible refine below_drewN ?_ _) | (with_reducible refine bel_alloc ?_ _) | (with_reducible refine Below.setCell ?_ ?_ _) | (with_reducible refine bel_call ?_ (by assumption)) | (simp <;> omega)))
      · have e9 : cellP ty false n tx = (false, tx) := by simp [cellP, k1, k2]
        rw [e9]
        have b1 : (ty == 1) = false := by simp [k1]
        have b2 : (ty == 2) = false := by simp [k2]
        go_enter Tryd.func27, Tryd.ntmps27
        go_wp2_with fail
        refine bodyPost_ret (v := .agg #[.bool false, .string tx]) (by first | (simp [results, Tryd.results27, go_sem]; done) | (simp [results, Tryd.results27, go_sem]; go_simp)) rfl ⟨rfl, ?_⟩
        have hW := Below.refl w.heap.size w
        exact (by repeat' (first | (with_reducible exact Below.refl _ _) | (with_reducible assumption) | (with_reducible refine Below.drew ?_) | (with_reducible refine below_drewN ?_ _) | (with_reducible refine bel_alloc ?_ _) | (with_reducible refine Below.setCell ?_ ?_ _) | (with_reducible refine bel_call ?_ (by assumption)) | (simp <;> omega)))

theorem tx_nums (tx : ByteArray) : strOfNums (tx.data.toList.map fun b => (b.toNat : Int)) = tx := Lib.Lz.strOfNums_map _
theorem tx_rng (tx : ByteArray) : Rng (tx.data.toList.map fun b => (b.toNat : Int)) := by
  intro x hx
  obtain ⟨b, -, rfl⟩ := List.mem_map.1 hx
  have := b.toNat_lt
  omega
set_option maxRecDepth 100000 in
theorem cell_pure {n : Int} {tx : ByteArray} {c : Int} {w : World} (h : PM.Pure Tryd.prog 24 [.agg [.d (.int .i64 2), .d (.bool false), .d (.int .i64 n), .d (.str (tx.data.toList.map fun b => (b.toNat : Int)))]] (.agg [.d (.bool false), .d (.str [c])])) (h0 : -9223372036854775808 ≤ n) (h1 : n ≤ 9223372036854775807) (hx : tx.size ≤ maxLen) :
    Calls Tryd.prog 24 #[.agg #[.int .i64 2, .bool false, .int .i64 n, .string tx]] w (Ret (cellV (false, strOfNums [c])) w) := by
  have hc := PM.calls_of_pure Tryd.func24 rfl rfl h (w := w) (vs := [.agg #[.int .i64 2, .bool false, .int .i64 n, .string tx]]) (by
    unfold PM.RelAs
    refine ⟨_, _, rfl, ?_, ?_⟩
    · unfold PM.RelA
      refine ⟨[.int .i64 2, .bool false, .int .i64 n, .string tx], rfl, ?_, ?_⟩
      · unfold PM.RelAs
        refine ⟨_, _, rfl, PM.relA_int (by rfl), ?_⟩
        unfold PM.RelAs
        refine ⟨_, _, rfl, PM.relA_bool, ?_⟩
        unfold PM.RelAs
        refine ⟨_, _, rfl, PM.relA_int (by rw [PM.wf_i64]; simp only [Bool.and_eq_true, decide_eq_true_eq]; exact ⟨h0, h1⟩), ?_⟩
        unfold PM.RelAs
        refine ⟨_, _, rfl, ?_, ?_⟩
        · have := PM.relA_str (G := PM.G0) (m := PM.nom) (w := w) (tx_rng tx) (by rw [List.length_map]; exact hx)
          rw [tx_nums] at this
          exact this
        · unfold PM.RelAs
          rfl
      · intro u hu
        simp only [List.mem_cons, List.not_mem_nil, or_false] at hu
        rcases hu with rfl | rfl | rfl | rfl <;> rfl
    · unfold PM.RelAs
      rfl)
  refine hc.mono ?_
  rintro e w' ⟨v, G', rfl, hb, -, hr⟩
  unfold PM.RelA at hr
  obtain ⟨vs, rfl, hr, -⟩ := hr
  unfold PM.RelAs at hr
  obtain ⟨v1, vs1, rfl, r1, hr⟩ := hr
  unfold PM.RelAs at hr
  obtain ⟨v2, vs2, rfl, r2, hr⟩ := hr
  unfold PM.RelAs at hr
  subst hr
  obtain rfl := r1.bool
  obtain ⟨rfl, -, -⟩ := r2.str
  exact ⟨rfl, hb⟩
set_option maxRecDepth 100000 in
set_option maxHeartbeats 4000000 in
theorem cell_any (ty : Int) (nl : Bool) (n : Int) (tx : ByteArray) (w : World) (h0 : -9223372036854775808 ≤ n) (h1 : n ≤ 9223372036854775807) (hx : tx.size ≤ maxLen) (htab : Lib.TabIs Tryd.prog w "internal/strconv.uint64pow10" .u64 Lib.pow10Tab) : Calls Tryd.prog 24 #[.agg #[.int .i64 ty, .bool nl, .int .i64 n, .string tx]] w (Ret (cellV (cellP ty nl n tx)) w) := by
  cases nl with
  | true =>
    go_enter Tryd.func24, Tryd.ntmps24
    go_wp2_with fail
    refine bodyPost_ret (v := .agg #[.bool true, .string ⟨#[]⟩]) (by first | (simp [results, Tryd.results24, go_sem]; done) | (simp [results, Tryd.results24, go_sem]; go_simp)) rfl ⟨rfl, ?_⟩
    have hW := Below.refl w.heap.size w
    exact (by repeat' (first | (with_reducible exact Below.refl _ _) | (with_reducible assumption) | (with_reducible refine Below.drew ?_) | (with_reducible refine below_drewN ?_ _) | (with_reducible refine bel_alloc ?_ _) | (with_reducible refine Below.setCell ?_ ?_ _) | (with_reducible refine bel_call ?_ (by assumption)) | (simp <;> omega)))
  | false =>
    by_cases k1 : ty = 1
    · subst k1
      have HT := Lib.hid (fun (w' : World) (hb : Below w.heap.size w w') => (Any.strconv_FormatInt_10 Tryd.lays173 n h0 h1 w' (Lib.tabBelow_of_tabIs htab w' hb)))
      clear htab
      go_enter Tryd.func24, Tryd.ntmps24
      go_wp2_with fail
      refine (HT.out _ (bel_alloc (bel_alloc (Below.refl _ w) _) _)).mono ?_
      rintro e w1 ⟨rfl, k9, os9, rfl⟩
      have hb1 := below_grow9 ((w.alloc (.cells #[.int .i64 1, .bool false, .int .i64 n, .string tx] 49)).alloc (.cells #[.bool false, .string ⟨#[]⟩] 52)) k9 os9
      generalize Sort.grow (((w.alloc (.cells #[.int .i64 1, .bool false, .int .i64 n, .string tx] 49)).alloc (.cells #[.bool false, .string ⟨#[]⟩] 52)).drewN k9) os9 = w1 at *
      have HB : Hid (Below w.heap.size w w1) := Lib.hid (bel_call (bel_alloc (bel_alloc (Below.refl _ w) _) _) hb1)
      have z0 : w1.cell? ⟨w.heap.size + 1, 0, none⟩ = some (.bool false) := (hb1.cell (p := ⟨w.heap.size + 1, 0, none⟩) (by simp)).trans (by go_simp)
      have f0 : w1.frozen? ⟨w.heap.size + 1, 0, none⟩ = false := (hb1.frozen (p := ⟨w.heap.size + 1, 0, none⟩) (by simp)).trans (by go_simp)
      have z1 : w1.cell? ⟨w.heap.size + 1, 1, none⟩ = some (.string ⟨#[]⟩) := (hb1.cell (p := ⟨w.heap.size + 1, 1, none⟩) (by simp)).trans (by go_simp)
      have f1 : w1.frozen? ⟨w.heap.size + 1, 1, none⟩ = false := (hb1.frozen (p := ⟨w.heap.size + 1, 1, none⟩) (by simp)).trans (by go_simp)
      clear hb1
      go_wp2_with fail
      refine bodyPost_ret (v := .agg #[.bool false, .string ⟨(Lib.itoa n).toArray⟩]) (by first | (simp [results, Tryd.results24, go_sem]; done) | (simp [results, Tryd.results24, go_sem]; go_simp)) rfl ⟨rfl, ?_⟩
      have hB := HB.out
      exact (by repeat' (first | (with_reducible exact Below.refl _ _) | (with_reducible assumption) | (with_reducible refine Below.drew ?_) | (with_reducible refine below_drewN ?_ _) | (with_reducible refine bel_alloc ?_ _) | (with_reducible refine Below.setCell ?_ ?_ _) | (with_reducible refine bel_call ?_ (by assumption)) | (simp <;> omega)))
    · by_cases k2 : ty = 2
      · subst k2
        have ht9 := tx_nums tx
        by_cases k3 : n = 1
        · subst k3
          have e9 : cellP 2 false 1 tx = (false, ⟨#[116]⟩) := by simp [cellP]
          rw [e9]
          exact cell_pure (PM.pCellT (tx.data.toList.map fun b => (b.toNat : Int))) (by omega) (by omega) hx
        · have e9 : cellP 2 false n tx = (false, ⟨#[102]⟩) := by simp [cellP, k3]
          rw [e9]
          exact cell_pure (PM.pCellF n k3 (tx.data.toList.map fun b => (b.toNat : Int))) h0 h1 hx
      · have e9 : cellP ty false n tx = (false, tx) := by simp [cellP, k1, k2]
        rw [e9]
        have b1 : (ty == 1) = false := by simp [k1]
        have b2 : (ty == 2) = false := by simp [k2]
        go_enter Tryd.func24, Tryd.ntmps24
        go_wp2_with fail
        refine bodyPost_ret (v := .agg #[.bool false, .string tx]) (by first | (simp [results, Tryd.results24, go_sem]; done) | (simp [results, Tryd.results24, go_sem]; go_simp)) rfl ⟨rfl, ?_⟩
        have hW := Below.refl w.heap.size w
        exact (by repeat' (first | (with_reducible exact Below.refl _ _) | (with_reducible assumption) | (with_reducible refine Below.drew ?_) | (with_reducible refine below_drewN ?_ _) | (with_reducible refine bel_alloc ?_ _) | (with_reducible refine Below.setCell ?_ ?_ _) | (with_reducible refine bel_call ?_ (by assumption)) | (simp <;> omega)))

end Sy
end Go.Proofs.YthaekefdadccaaaDoor
