/- sstable: the reference's laid (walk). -/
import Derived.Test.YtmojbamloanleaaSs2
set_option linter.unusedVariables false
set_option linter.unusedSimpArgs false
namespace Go.Proofs.Ytmojbamloanleaa
open Go.RowKit
namespace Ss
open Mt Codec
def LaidP (l : List Int) (w : World) (e : Ending) (w' : World) : Prop := ∃ v, e = .returned v ∧ OwnS w' w.heap.size 5 v l ∧ Below w.heap.size w w'
set_option maxRecDepth 100000 in
set_option maxHeartbeats 8000000 in
theorem laid_true (av kv vv : Value) (a key val : List Int) (s : Nat) (w : World) (ha : IsB w av a) (hk : IsB w kv key) (hv : IsB w vv val) (hs : s < 18446744073709551616) (hkl : key.length ≤ 256) (hvl : val.length ≤ 65536) :
    Calls Try.prog 57 #[av, .agg #[kv, .int .u64 (s : Int), .bool true, vv]] w (LaidP (layS a (key, (s : Int), true, val)) w) := by
  obtain ⟨i0, hi0, hz0, hz1, hz2⟩ := info_parts infoU8
  have HI := Lib.hid hi0; have HZ0 := Lib.hid hz0; have HZ1 := Lib.hid hz1; have HZ2 := Lib.hid hz2
  obtain ⟨ao, ac, rfl, -, -, -⟩ := ha.form
  obtain ⟨ko, kc, rfl, -, -, -⟩ := hk.form
  obtain ⟨vo, vc, rfl, -, -, -⟩ := hv.form
  have hN := (comL_le a key).2
  have HSZ : Hid ((numN (comL a key) ++ numN (key.length - (comL a key)) ++ numN s ++ [(1 : Int)] ++ numN val.length ++ key.drop (comL a key) ++ val).length ≤ 66000) := Lib.hid (by
    have h1 := numN_len10 (n := comL a key) (by omega)
    have h2 := numN_len10 (n := key.length - comL a key) (by omega)
    have h3 := numN_len10 hs
    have h4 := numN_len10 (n := val.length) (by omega)
    simp only [List.length_append, List.length_singleton, List.length_drop]
    omega)
  have HLAY : Hid (layS a (key, (s : Int), true, val) = numN (comL a key) ++ numN (key.length - (comL a key)) ++ numN s ++ [(1 : Int)] ++ numN val.length ++ key.drop (comL a key) ++ val) := Lib.hid (by simp [layS])
  have HRNG : Hid (Rng (numN (comL a key) ++ numN (key.length - (comL a key)) ++ numN s ++ [(1 : Int)] ++ numN val.length ++ key.drop (comL a key) ++ val)) := Lib.hid ((((((numN_rng _).append (numN_rng _)).append (numN_rng _)).append (Rng.cons (by decide) Rng.nil)).append (numN_rng _)).append (hk.rng.drop _) |>.append hv.rng)
  have HK : Hid (IsB (w.alloc (.cells #[.slice ko key.length kc, .int .u64 ((s : Nat) : Int), .bool true, .slice vo val.length vc] 46)) (.slice ko key.length kc) key) := Lib.hid (hk.alloc _)
  have HV : Hid (IsB (w.alloc (.cells #[.slice ko key.length kc, .int .u64 ((s : Nat) : Int), .bool true, .slice vo val.length vc] 46)) (.slice vo val.length vc) val) := Lib.hid (hv.alloc _)
  have HCM := Lib.hid (common_any _ _ a key (w.alloc (.cells #[.slice ko key.length kc, .int .u64 ((s : Nat) : Int), .bool true, .slice vo val.length vc] 46)) (ha.alloc _) (hk.alloc _))
  have q1 := IntWalk.u64_in ((comL a key : Nat) : Int) (by omega)
  have q2 : (key.length : Int) - ((comL a key : Nat) : Int) = ((key.length - comL a key : Nat) : Int) := by omega
  have q3 := IntWalk.i64_in ((key.length - comL a key : Nat) : Int) (by omega)
  have q4 := IntWalk.u64_in ((key.length - comL a key : Nat) : Int) (by omega)
  have q5 := IntWalk.u64_in ((val.length : Nat) : Int) (by omega)
  have q6 : ((comL a key : Nat) : Int) ≤ key.length := by omega
  have q7 : (0 : Int) ≤ ((comL a key : Nat) : Int) := by omega
  have HR1 := Lib.hid (hk.rng); have HR2 := Lib.hid (hv.rng)
  clear hi0 hz0 hz1 hz2 ha hk hv
  go_enter Try.func57, Try.ntmps57
  go_wp2_with fail
  refine HCM.out.mono ?_
  rintro e w1 ⟨rfl, hb⟩
  have G1 : Hid (Below (w.alloc (.cells #[.slice ko key.length kc, .int .u64 ((s : Nat) : Int), .bool true, .slice vo val.length vc] 46)).heap.size (w.alloc (.cells #[.slice ko key.length kc, .int .u64 ((s : Nat) : Int), .bool true, .slice vo val.length vc] 46)) w1) := Lib.hid hb
  have e0 : w1.cell? ⟨w.heap.size, 0, none⟩ = some (.slice ko key.length kc) := (G1.out.cell (p := ⟨w.heap.size, 0, none⟩) (by simp)).trans (by go_simp); have e1 : w1.cell? ⟨w.heap.size, 1, none⟩ = some (.int .u64 ((s : Nat) : Int)) := (G1.out.cell (p := ⟨w.heap.size, 1, none⟩) (by simp)).trans (by go_simp); have e2 : w1.cell? ⟨w.heap.size, 2, none⟩ = some (.bool true) := (G1.out.cell (p := ⟨w.heap.size, 2, none⟩) (by simp)).trans (by go_simp); have e3 : w1.cell? ⟨w.heap.size, 3, none⟩ = some (.slice vo val.length vc) := (G1.out.cell (p := ⟨w.heap.size, 3, none⟩) (by simp)).trans (by go_simp)
  have ze1 : w.heap.size < w1.heap.size := Nat.lt_of_lt_of_le (by simp) G1.out.size
  clear hb HCM
  go_wp2_with fail
  refine (rNumber_any (comL a key) _ (by omega)).mono ?_
  unfold RNumPost
  rintro e w2 ⟨va, rfl, ho, hb⟩
  have Nva := Lib.hid (IsB.of_own ho (numN_rng _))
  have Ova := Lib.hid (own_mono ho G1.out.size)
  have G2 : Hid (Below (w.alloc (.cells #[.slice ko key.length kc, .int .u64 ((s : Nat) : Int), .bool true, .slice vo val.length vc] 46)).heap.size (w.alloc (.cells #[.slice ko key.length kc, .int .u64 ((s : Nat) : Int), .bool true, .slice vo val.length vc] 46)) w2) := Lib.hid (bel_call G1.out hb)
  have HBS : Hid (Below w1.heap.size w1 w2) := Lib.hid hb
  obtain ⟨vao, vac, rfl, -, -, -, -⟩ := own_form ho
  clear ho hb e0 e1 e2 e3
  have e0 : w2.cell? ⟨w.heap.size, 0, none⟩ = some (.slice ko key.length kc) := (G2.out.cell (p := ⟨w.heap.size, 0, none⟩) (by simp)).trans (by go_simp)
  have e1 : w2.cell? ⟨w.heap.size, 1, none⟩ = some (.int .u64 ((s : Nat) : Int)) := (G2.out.cell (p := ⟨w.heap.size, 1, none⟩) (by simp)).trans (by go_simp)
  have e2 : w2.cell? ⟨w.heap.size, 2, none⟩ = some (.bool true) := (G2.out.cell (p := ⟨w.heap.size, 2, none⟩) (by simp)).trans (by go_simp)
  have e3 : w2.cell? ⟨w.heap.size, 3, none⟩ = some (.slice vo val.length vc) := (G2.out.cell (p := ⟨w.heap.size, 3, none⟩) (by simp)).trans (by go_simp)
  have zzva : w.heap.size < w2.heap.size := Nat.lt_of_lt_of_le (by simp) G2.out.size
  go_wp2_with fail
  refine (rNumber_any (key.length - comL a key) _ (by omega)).mono ?_
  have O0 : Hid (w2.ownsRow (w.alloc (.cells #[.slice ko key.length kc, .int .u64 ((s : Nat) : Int), .bool true, .slice vo val.length vc] 46)).heap.size 5 1 (.slice vao (numN (comL a key)).length vac) ((numN (comL a key)).length) ((numN (comL a key)).map (Value.int .u8))) := Ova
  unfold RNumPost
  rintro e w3 ⟨vb, rfl, ho, hb⟩
  have Nvb := Lib.hid (IsB.of_own ho (numN_rng _))
  have Ovb := Lib.hid (own_mono ho G2.out.size)
  have G3 : Hid (Below (w.alloc (.cells #[.slice ko key.length kc, .int .u64 ((s : Nat) : Int), .bool true, .slice vo val.length vc] 46)).heap.size (w.alloc (.cells #[.slice ko key.length kc, .int .u64 ((s : Nat) : Int), .bool true, .slice vo val.length vc] 46)) w3) := Lib.hid (bel_call G2.out hb)
  have HBS : Hid (Below w2.heap.size w2 w3) := Lib.hid hb
  obtain ⟨vbo, vbc, rfl, -, -, -, -⟩ := own_form ho
  clear ho hb e0 e1 e2 e3
  have e0 : w3.cell? ⟨w.heap.size, 0, none⟩ = some (.slice ko key.length kc) := (G3.out.cell (p := ⟨w.heap.size, 0, none⟩) (by simp)).trans (by go_simp)
  have e1 : w3.cell? ⟨w.heap.size, 1, none⟩ = some (.int .u64 ((s : Nat) : Int)) := (G3.out.cell (p := ⟨w.heap.size, 1, none⟩) (by simp)).trans (by go_simp)
  have e2 : w3.cell? ⟨w.heap.size, 2, none⟩ = some (.bool true) := (G3.out.cell (p := ⟨w.heap.size, 2, none⟩) (by simp)).trans (by go_simp)
  have e3 : w3.cell? ⟨w.heap.size, 3, none⟩ = some (.slice vo val.length vc) := (G3.out.cell (p := ⟨w.heap.size, 3, none⟩) (by simp)).trans (by go_simp)
  have zzvb : w.heap.size < w3.heap.size := Nat.lt_of_lt_of_le (by simp) G3.out.size
  replace O0 := Lib.hid (own_below O0.out HBS.out)
  go_wp2_with (at_builtin; refine wpList_append_bytes (w := w3) (base := (w.alloc (.cells #[.slice ko key.length kc, .int .u64 ((s : Nat) : Int), .bool true, .slice vo val.length vc] 46)).heap.size) (.tmp 22) (.tmp 23) _ rfl rfl i0 _ Try.underlying25 HI.out HZ0.out HZ1.out HZ2.out rfl _ (numN (comL a key)) (numN (key.length - (comL a key))) rfl rfl O0.out Nvb.out (by have := HSZ.out; simp only [List.length_append, List.length_singleton, List.length_drop] at this ⊢; omega) G3.out.size ?_; intro x1 w4 ho1 hb1; have O1 : Hid (w4.ownsRow (w.alloc (.cells #[.slice ko key.length kc, .int .u64 ((s : Nat) : Int), .bool true, .slice vo val.length vc] 46)).heap.size 5 1 x1 ((numN (comL a key)).length + (numN (key.length - (comL a key))).length) ((numN (comL a key) ++ numN (key.length - (comL a key))).map (Value.int .u8))) := Lib.hid (by first | exact ho1 | (rw [List.length_drop] at ho1; exact ho1)); have G4 : Hid (Below (w.alloc (.cells #[.slice ko key.length kc, .int .u64 ((s : Nat) : Int), .bool true, .slice vo val.length vc] 46)).heap.size (w.alloc (.cells #[.slice ko key.length kc, .int .u64 ((s : Nat) : Int), .bool true, .slice vo val.length vc] 46)) w4) := Lib.hid (G3.out.trans hb1); clear ho1 hb1 e0 e1 e2 e3; have e0 : w4.cell? ⟨w.heap.size, 0, none⟩ = some (.slice ko key.length kc) := (G4.out.cell (p := ⟨w.heap.size, 0, none⟩) (by simp)).trans (by go_simp); have e1 : w4.cell? ⟨w.heap.size, 1, none⟩ = some (.int .u64 ((s : Nat) : Int)) := (G4.out.cell (p := ⟨w.heap.size, 1, none⟩) (by simp)).trans (by go_simp); have e2 : w4.cell? ⟨w.heap.size, 2, none⟩ = some (.bool true) := (G4.out.cell (p := ⟨w.heap.size, 2, none⟩) (by simp)).trans (by go_simp); have e3 : w4.cell? ⟨w.heap.size, 3, none⟩ = some (.slice vo val.length vc) := (G4.out.cell (p := ⟨w.heap.size, 3, none⟩) (by simp)).trans (by go_simp); have ze1 : w.heap.size < w4.heap.size := Nat.lt_of_lt_of_le (by simp) G4.out.size; obtain ⟨xo1, xc1, rfl, -, -, -, -⟩ := own_form O1.out)
  refine (rNumber_any s _ hs).mono ?_
  unfold RNumPost
  rintro e w5 ⟨vd, rfl, ho, hb⟩
  have Nvd := Lib.hid (IsB.of_own ho (numN_rng _))
  have Ovd := Lib.hid (own_mono ho G4.out.size)
  have G5 : Hid (Below (w.alloc (.cells #[.slice ko key.length kc, .int .u64 ((s : Nat) : Int), .bool true, .slice vo val.length vc] 46)).heap.size (w.alloc (.cells #[.slice ko key.length kc, .int .u64 ((s : Nat) : Int), .bool true, .slice vo val.length vc] 46)) w5) := Lib.hid (bel_call G4.out hb)
  have HBS : Hid (Below w4.heap.size w4 w5) := Lib.hid hb
  obtain ⟨vdo, vdc, rfl, -, -, -, -⟩ := own_form ho
  clear ho hb e0 e1 e2 e3
  have e0 : w5.cell? ⟨w.heap.size, 0, none⟩ = some (.slice ko key.length kc) := (G5.out.cell (p := ⟨w.heap.size, 0, none⟩) (by simp)).trans (by go_simp)
  have e1 : w5.cell? ⟨w.heap.size, 1, none⟩ = some (.int .u64 ((s : Nat) : Int)) := (G5.out.cell (p := ⟨w.heap.size, 1, none⟩) (by simp)).trans (by go_simp)
  have e2 : w5.cell? ⟨w.heap.size, 2, none⟩ = some (.bool true) := (G5.out.cell (p := ⟨w.heap.size, 2, none⟩) (by simp)).trans (by go_simp)
  have e3 : w5.cell? ⟨w.heap.size, 3, none⟩ = some (.slice vo val.length vc) := (G5.out.cell (p := ⟨w.heap.size, 3, none⟩) (by simp)).trans (by go_simp)
  have zzvd : w.heap.size < w5.heap.size := Nat.lt_of_lt_of_le (by simp) G5.out.size
  replace O1 := Lib.hid (own_below O1.out HBS.out)
  go_wp2_with first
    | (at_builtin; refine wpList_append_bytes (w := w5) (base := (w.alloc (.cells #[.slice ko key.length kc, .int .u64 ((s : Nat) : Int), .bool true, .slice vo val.length vc] 46)).heap.size) (.tmp 28) (.tmp 29) _ rfl rfl i0 _ Try.underlying25 HI.out HZ0.out HZ1.out HZ2.out rfl _ (numN (comL a key) ++ numN (key.length - (comL a key))) (numN s) rfl rfl O1.out Nvd.out (by have := HSZ.out; simp only [List.length_append, List.length_singleton, List.length_drop] at this ⊢; omega) G5.out.size ?_; intro x2 w6 ho2 hb2; have O2 : Hid (w6.ownsRow (w.alloc (.cells #[.slice ko key.length kc, .int .u64 ((s : Nat) : Int), .bool true, .slice vo val.length vc] 46)).heap.size 5 1 x2 ((numN (comL a key)).length + (numN (key.length - (comL a key))).length + (numN s).length) ((numN (comL a key) ++ numN (key.length - (comL a key)) ++ numN s).map (Value.int .u8))) := Lib.hid (by first | exact ho2 | (rw [List.length_drop] at ho2; exact ho2)); have G6 : Hid (Below (w.alloc (.cells #[.slice ko key.length kc, .int .u64 ((s : Nat) : Int), .bool true, .slice vo val.length vc] 46)).heap.size (w.alloc (.cells #[.slice ko key.length kc, .int .u64 ((s : Nat) : Int), .bool true, .slice vo val.length vc] 46)) w6) := Lib.hid (G5.out.trans hb2); clear ho2 hb2 e0 e1 e2 e3; have e0 : w6.cell? ⟨w.heap.size, 0, none⟩ = some (.slice ko key.length kc) := (G6.out.cell (p := ⟨w.heap.size, 0, none⟩) (by simp)).trans (by go_simp); have e1 : w6.cell? ⟨w.heap.size, 1, none⟩ = some (.int .u64 ((s : Nat) : Int)) := (G6.out.cell (p := ⟨w.heap.size, 1, none⟩) (by simp)).trans (by go_simp); have e2 : w6.cell? ⟨w.heap.size, 2, none⟩ = some (.bool true) := (G6.out.cell (p := ⟨w.heap.size, 2, none⟩) (by simp)).trans (by go_simp); have e3 : w6.cell? ⟨w.heap.size, 3, none⟩ = some (.slice vo val.length vc) := (G6.out.cell (p := ⟨w.heap.size, 3, none⟩) (by simp)).trans (by go_simp); have ze2 : w.heap.size < w6.heap.size := Nat.lt_of_lt_of_le (by simp) G6.out.size; obtain ⟨xo2, xc2, rfl, -, -, -, -⟩ := own_form O2.out)
    | (at_builtin; refine wpList_append_one (w := w6) (base := (w.alloc (.cells #[.slice ko key.length kc, .int .u64 ((s : Nat) : Int), .bool true, .slice vo val.length vc] 46)).heap.size) (.tmp 33) (.tmp 34) _ rfl rfl i0 _ 1 Try.underlying25 HI.out HZ0.out HZ1.out HZ2.out rfl (.int .u8 1) rfl rfl O2.out rfl (by have := HSZ.out; simp only [List.length_append, List.length_singleton, List.length_drop] at this ⊢; omega) (by have := HSZ.out; simp only [List.length_append, List.length_singleton, List.length_drop] at this ⊢; omega) G6.out.size ?_; intro x3 w7 ho3 hb3; have O3 : Hid (w7.ownsRow (w.alloc (.cells #[.slice ko key.length kc, .int .u64 ((s : Nat) : Int), .bool true, .slice vo val.length vc] 46)).heap.size 5 1 x3 ((numN (comL a key)).length + (numN (key.length - (comL a key))).length + (numN s).length + 1) ((numN (comL a key) ++ numN (key.length - (comL a key)) ++ numN s ++ [(1 : Int)]).map (Value.int .u8))) := Lib.hid (by rw [List.map_append]; exact ho3); have G7 : Hid (Below (w.alloc (.cells #[.slice ko key.length kc, .int .u64 ((s : Nat) : Int), .bool true, .slice vo val.length vc] 46)).heap.size (w.alloc (.cells #[.slice ko key.length kc, .int .u64 ((s : Nat) : Int), .bool true, .slice vo val.length vc] 46)) w7) := Lib.hid (G6.out.trans hb3); clear ho3 hb3 e0 e1 e2 e3; have e0 : w7.cell? ⟨w.heap.size, 0, none⟩ = some (.slice ko key.length kc) := (G7.out.cell (p := ⟨w.heap.size, 0, none⟩) (by simp)).trans (by go_simp); have e1 : w7.cell? ⟨w.heap.size, 1, none⟩ = some (.int .u64 ((s : Nat) : Int)) := (G7.out.cell (p := ⟨w.heap.size, 1, none⟩) (by simp)).trans (by go_simp); have e2 : w7.cell? ⟨w.heap.size, 2, none⟩ = some (.bool true) := (G7.out.cell (p := ⟨w.heap.size, 2, none⟩) (by simp)).trans (by go_simp); have e3 : w7.cell? ⟨w.heap.size, 3, none⟩ = some (.slice vo val.length vc) := (G7.out.cell (p := ⟨w.heap.size, 3, none⟩) (by simp)).trans (by go_simp); have ze7 : w.heap.size < w7.heap.size := Nat.lt_of_lt_of_le (by simp) G7.out.size; obtain ⟨xo3, xc3, rfl, -, -, -, -⟩ := own_form O3.out)
  refine (rNumber_any val.length _ (by omega)).mono ?_
  unfold RNumPost
  rintro e w8 ⟨vf, rfl, ho, hb⟩
  have Nvf := Lib.hid (IsB.of_own ho (numN_rng _))
  have Ovf := Lib.hid (own_mono ho G7.out.size)
  have G8 : Hid (Below (w.alloc (.cells #[.slice ko key.length kc, .int .u64 ((s : Nat) : Int), .bool true, .slice vo val.length vc] 46)).heap.size (w.alloc (.cells #[.slice ko key.length kc, .int .u64 ((s : Nat) : Int), .bool true, .slice vo val.length vc] 46)) w8) := Lib.hid (bel_call G7.out hb)
  have HBS : Hid (Below w7.heap.size w7 w8) := Lib.hid hb
  obtain ⟨vfo, vfc, rfl, -, -, -, -⟩ := own_form ho
  clear ho hb e0 e1 e2 e3
  have e0 : w8.cell? ⟨w.heap.size, 0, none⟩ = some (.slice ko key.length kc) := (G8.out.cell (p := ⟨w.heap.size, 0, none⟩) (by simp)).trans (by go_simp)
  have e1 : w8.cell? ⟨w.heap.size, 1, none⟩ = some (.int .u64 ((s : Nat) : Int)) := (G8.out.cell (p := ⟨w.heap.size, 1, none⟩) (by simp)).trans (by go_simp)
  have e2 : w8.cell? ⟨w.heap.size, 2, none⟩ = some (.bool true) := (G8.out.cell (p := ⟨w.heap.size, 2, none⟩) (by simp)).trans (by go_simp)
  have e3 : w8.cell? ⟨w.heap.size, 3, none⟩ = some (.slice vo val.length vc) := (G8.out.cell (p := ⟨w.heap.size, 3, none⟩) (by simp)).trans (by go_simp)
  have zzvf : w.heap.size < w8.heap.size := Nat.lt_of_lt_of_le (by simp) G8.out.size
  replace O3 := Lib.hid (own_below O3.out HBS.out)
  go_wp2_with first
    | (at_builtin; refine wpList_append_bytes (w := w8) (base := (w.alloc (.cells #[.slice ko key.length kc, .int .u64 ((s : Nat) : Int), .bool true, .slice vo val.length vc] 46)).heap.size) (.tmp 44) (.tmp 45) _ rfl rfl i0 _ Try.underlying25 HI.out HZ0.out HZ1.out HZ2.out rfl _ (numN (comL a key) ++ numN (key.length - (comL a key)) ++ numN s ++ [(1 : Int)]) (numN val.length) rfl rfl O3.out Nvf.out (by have := HSZ.out; simp only [List.length_append, List.length_singleton, List.length_drop] at this ⊢; omega) G8.out.size ?_; intro x4 w9 ho4 hb4; have O4 : Hid (w9.ownsRow (w.alloc (.cells #[.slice ko key.length kc, .int .u64 ((s : Nat) : Int), .bool true, .slice vo val.length vc] 46)).heap.size 5 1 x4 ((numN (comL a key)).length + (numN (key.length - (comL a key))).length + (numN s).length + 1 + (numN val.length).length) ((numN (comL a key) ++ numN (key.length - (comL a key)) ++ numN s ++ [(1 : Int)] ++ numN val.length).map (Value.int .u8))) := Lib.hid (by first | exact ho4 | (rw [List.length_drop] at ho4; exact ho4)); have G9 : Hid (Below (w.alloc (.cells #[.slice ko key.length kc, .int .u64 ((s : Nat) : Int), .bool true, .slice vo val.length vc] 46)).heap.size (w.alloc (.cells #[.slice ko key.length kc, .int .u64 ((s : Nat) : Int), .bool true, .slice vo val.length vc] 46)) w9) := Lib.hid (G8.out.trans hb4); clear ho4 hb4 e0 e1 e2 e3; have e0 : w9.cell? ⟨w.heap.size, 0, none⟩ = some (.slice ko key.length kc) := (G9.out.cell (p := ⟨w.heap.size, 0, none⟩) (by simp)).trans (by go_simp); have e1 : w9.cell? ⟨w.heap.size, 1, none⟩ = some (.int .u64 ((s : Nat) : Int)) := (G9.out.cell (p := ⟨w.heap.size, 1, none⟩) (by simp)).trans (by go_simp); have e2 : w9.cell? ⟨w.heap.size, 2, none⟩ = some (.bool true) := (G9.out.cell (p := ⟨w.heap.size, 2, none⟩) (by simp)).trans (by go_simp); have e3 : w9.cell? ⟨w.heap.size, 3, none⟩ = some (.slice vo val.length vc) := (G9.out.cell (p := ⟨w.heap.size, 3, none⟩) (by simp)).trans (by go_simp); have ze4 : w.heap.size < w9.heap.size := Nat.lt_of_lt_of_le (by simp) G9.out.size; obtain ⟨xo4, xc4, rfl, -, -, -, -⟩ := own_form O4.out)
    | (at_builtin; refine wpList_append_bytes (w := w9) (base := (w.alloc (.cells #[.slice ko key.length kc, .int .u64 ((s : Nat) : Int), .bool true, .slice vo val.length vc] 46)).heap.size) (.tmp 47) (.tmp 51) _ rfl rfl i0 _ Try.underlying25 HI.out HZ0.out HZ1.out HZ2.out rfl _ (numN (comL a key) ++ numN (key.length - (comL a key)) ++ numN s ++ [(1 : Int)] ++ numN val.length) (key.drop (comL a key)) rfl rfl O4.out (isB_suf (HK.out.below G9.out) (by omega) (by omega) rfl (by first | exact .inr rfl | (simp; done) | (simp; omega))) (by have := HSZ.out; simp only [List.length_append, List.length_singleton, List.length_drop] at this ⊢; omega) G9.out.size ?_; intro x5 w10 ho5 hb5; have O5 : Hid (w10.ownsRow (w.alloc (.cells #[.slice ko key.length kc, .int .u64 ((s : Nat) : Int), .bool true, .slice vo val.length vc] 46)).heap.size 5 1 x5 ((numN (comL a key)).length + (numN (key.length - (comL a key))).length + (numN s).length + 1 + (numN val.length).length + (key.length - (comL a key))) ((numN (comL a key) ++ numN (key.length - (comL a key)) ++ numN s ++ [(1 : Int)] ++ numN val.length ++ key.drop (comL a key)).map (Value.int .u8))) := Lib.hid (by first | exact ho5 | (rw [List.length_drop] at ho5; exact ho5)); have G10 : Hid (Below (w.alloc (.cells #[.slice ko key.length kc, .int .u64 ((s : Nat) : Int), .bool true, .slice vo val.length vc] 46)).heap.size (w.alloc (.cells #[.slice ko key.length kc, .int .u64 ((s : Nat) : Int), .bool true, .slice vo val.length vc] 46)) w10) := Lib.hid (G9.out.trans hb5); clear ho5 hb5 e0 e1 e2 e3; have e0 : w10.cell? ⟨w.heap.size, 0, none⟩ = some (.slice ko key.length kc) := (G10.out.cell (p := ⟨w.heap.size, 0, none⟩) (by simp)).trans (by go_simp); have e1 : w10.cell? ⟨w.heap.size, 1, none⟩ = some (.int .u64 ((s : Nat) : Int)) := (G10.out.cell (p := ⟨w.heap.size, 1, none⟩) (by simp)).trans (by go_simp); have e2 : w10.cell? ⟨w.heap.size, 2, none⟩ = some (.bool true) := (G10.out.cell (p := ⟨w.heap.size, 2, none⟩) (by simp)).trans (by go_simp); have e3 : w10.cell? ⟨w.heap.size, 3, none⟩ = some (.slice vo val.length vc) := (G10.out.cell (p := ⟨w.heap.size, 3, none⟩) (by simp)).trans (by go_simp); have ze5 : w.heap.size < w10.heap.size := Nat.lt_of_lt_of_le (by simp) G10.out.size; obtain ⟨xo5, xc5, rfl, -, -, -, -⟩ := own_form O5.out)
    | (at_builtin; refine wpList_append_bytes (w := w10) (base := (w.alloc (.cells #[.slice ko key.length kc, .int .u64 ((s : Nat) : Int), .bool true, .slice vo val.length vc] 46)).heap.size) (.tmp 53) (.tmp 55) _ rfl rfl i0 _ Try.underlying25 HI.out HZ0.out HZ1.out HZ2.out rfl _ (numN (comL a key) ++ numN (key.length - (comL a key)) ++ numN s ++ [(1 : Int)] ++ numN val.length ++ key.drop (comL a key)) (val) rfl rfl O5.out (HV.out.below G10.out) (by have := HSZ.out; simp only [List.length_append, List.length_singleton, List.length_drop] at this ⊢; omega) G10.out.size ?_; intro x6 w11 ho6 hb6; have O6 : Hid (w11.ownsRow (w.alloc (.cells #[.slice ko key.length kc, .int .u64 ((s : Nat) : Int), .bool true, .slice vo val.length vc] 46)).heap.size 5 1 x6 ((numN (comL a key)).length + (numN (key.length - (comL a key))).length + (numN s).length + 1 + (numN val.length).length + (key.length - (comL a key)) + val.length) ((numN (comL a key) ++ numN (key.length - (comL a key)) ++ numN s ++ [(1 : Int)] ++ numN val.length ++ key.drop (comL a key) ++ val).map (Value.int .u8))) := Lib.hid (by first | exact ho6 | (rw [List.length_drop] at ho6; exact ho6)); have G11 : Hid (Below (w.alloc (.cells #[.slice ko key.length kc, .int .u64 ((s : Nat) : Int), .bool true, .slice vo val.length vc] 46)).heap.size (w.alloc (.cells #[.slice ko key.length kc, .int .u64 ((s : Nat) : Int), .bool true, .slice vo val.length vc] 46)) w11) := Lib.hid (G10.out.trans hb6); clear ho6 hb6 e0 e1 e2 e3; have e0 : w11.cell? ⟨w.heap.size, 0, none⟩ = some (.slice ko key.length kc) := (G11.out.cell (p := ⟨w.heap.size, 0, none⟩) (by simp)).trans (by go_simp); have e1 : w11.cell? ⟨w.heap.size, 1, none⟩ = some (.int .u64 ((s : Nat) : Int)) := (G11.out.cell (p := ⟨w.heap.size, 1, none⟩) (by simp)).trans (by go_simp); have e2 : w11.cell? ⟨w.heap.size, 2, none⟩ = some (.bool true) := (G11.out.cell (p := ⟨w.heap.size, 2, none⟩) (by simp)).trans (by go_simp); have e3 : w11.cell? ⟨w.heap.size, 3, none⟩ = some (.slice vo val.length vc) := (G11.out.cell (p := ⟨w.heap.size, 3, none⟩) (by simp)).trans (by go_simp); have ze6 : w.heap.size < w11.heap.size := Nat.lt_of_lt_of_le (by simp) G11.out.size; obtain ⟨xo6, xc6, rfl, -, -, -, -⟩ := own_form O6.out)
  all_goals
    go_ret
    refine ⟨_, rfl, ?_, bel_call (bel_alloc (Below.refl _ w) _) G11.out⟩
    rw [HLAY.out]
    have h9 := own_mono O6.out (show w.heap.size ≤ (w.alloc (.cells #[.slice ko key.length kc, .int .u64 ((s : Nat) : Int), .bool true, .slice vo val.length vc] 46)).heap.size by simp)
    exact OwnS.of_own h9 (HRNG.out)

set_option maxRecDepth 100000 in
set_option maxHeartbeats 8000000 in
theorem laid_false (av kv vv : Value) (a key val : List Int) (s : Nat) (w : World) (ha : IsB w av a) (hk : IsB w kv key) (hv : IsB w vv val) (hs : s < 18446744073709551616) (hkl : key.length ≤ 256) (hvl : val.length ≤ 65536) :
    Calls Try.prog 57 #[av, .agg #[kv, .int .u64 (s : Int), .bool false, vv]] w (LaidP (layS a (key, (s : Int), false, val)) w) := by
  obtain ⟨i0, hi0, hz0, hz1, hz2⟩ := info_parts infoU8
  have HI := Lib.hid hi0; have HZ0 := Lib.hid hz0; have HZ1 := Lib.hid hz1; have HZ2 := Lib.hid hz2
  obtain ⟨ao, ac, rfl, -, -, -⟩ := ha.form
  obtain ⟨ko, kc, rfl, -, -, -⟩ := hk.form
  obtain ⟨vo, vc, rfl, -, -, -⟩ := hv.form
  have hN := (comL_le a key).2
  have HSZ : Hid ((numN (comL a key) ++ numN (key.length - (comL a key)) ++ numN s ++ [(0 : Int)] ++ numN val.length ++ key.drop (comL a key) ++ val).length ≤ 66000) := Lib.hid (by
    have h1 := numN_len10 (n := comL a key) (by omega)
    have h2 := numN_len10 (n := key.length - comL a key) (by omega)
    have h3 := numN_len10 hs
    have h4 := numN_len10 (n := val.length) (by omega)
    simp only [List.length_append, List.length_singleton, List.length_drop]
    omega)
  have HLAY : Hid (layS a (key, (s : Int), false, val) = numN (comL a key) ++ numN (key.length - (comL a key)) ++ numN s ++ [(0 : Int)] ++ numN val.length ++ key.drop (comL a key) ++ val) := Lib.hid (by simp [layS])
  have HRNG : Hid (Rng (numN (comL a key) ++ numN (key.length - (comL a key)) ++ numN s ++ [(0 : Int)] ++ numN val.length ++ key.drop (comL a key) ++ val)) := Lib.hid ((((((numN_rng _).append (numN_rng _)).append (numN_rng _)).append (Rng.cons (by decide) Rng.nil)).append (numN_rng _)).append (hk.rng.drop _) |>.append hv.rng)
  have HK : Hid (IsB (w.alloc (.cells #[.slice ko key.length kc, .int .u64 ((s : Nat) : Int), .bool false, .slice vo val.length vc] 46)) (.slice ko key.length kc) key) := Lib.hid (hk.alloc _)
  have HV : Hid (IsB (w.alloc (.cells #[.slice ko key.length kc, .int .u64 ((s : Nat) : Int), .bool false, .slice vo val.length vc] 46)) (.slice vo val.length vc) val) := Lib.hid (hv.alloc _)
  have HCM := Lib.hid (common_any _ _ a key (w.alloc (.cells #[.slice ko key.length kc, .int .u64 ((s : Nat) : Int), .bool false, .slice vo val.length vc] 46)) (ha.alloc _) (hk.alloc _))
  have q1 := IntWalk.u64_in ((comL a key : Nat) : Int) (by omega)
  have q2 : (key.length : Int) - ((comL a key : Nat) : Int) = ((key.length - comL a key : Nat) : Int) := by omega
  have q3 := IntWalk.i64_in ((key.length - comL a key : Nat) : Int) (by omega)
  have q4 := IntWalk.u64_in ((key.length - comL a key : Nat) : Int) (by omega)
  have q5 := IntWalk.u64_in ((val.length : Nat) : Int) (by omega)
  have q6 : ((comL a key : Nat) : Int) ≤ key.length := by omega
  have q7 : (0 : Int) ≤ ((comL a key : Nat) : Int) := by omega
  have HR1 := Lib.hid (hk.rng); have HR2 := Lib.hid (hv.rng)
  clear hi0 hz0 hz1 hz2 ha hk hv
  go_enter Try.func57, Try.ntmps57
  go_wp2_with fail
  refine HCM.out.mono ?_
  rintro e w1 ⟨rfl, hb⟩
  have G1 : Hid (Below (w.alloc (.cells #[.slice ko key.length kc, .int .u64 ((s : Nat) : Int), .bool false, .slice vo val.length vc] 46)).heap.size (w.alloc (.cells #[.slice ko key.length kc, .int .u64 ((s : Nat) : Int), .bool false, .slice vo val.length vc] 46)) w1) := Lib.hid hb
  have e0 : w1.cell? ⟨w.heap.size, 0, none⟩ = some (.slice ko key.length kc) := (G1.out.cell (p := ⟨w.heap.size, 0, none⟩) (by simp)).trans (by go_simp); have e1 : w1.cell? ⟨w.heap.size, 1, none⟩ = some (.int .u64 ((s : Nat) : Int)) := (G1.out.cell (p := ⟨w.heap.size, 1, none⟩) (by simp)).trans (by go_simp); have e2 : w1.cell? ⟨w.heap.size, 2, none⟩ = some (.bool false) := (G1.out.cell (p := ⟨w.heap.size, 2, none⟩) (by simp)).trans (by go_simp); have e3 : w1.cell? ⟨w.heap.size, 3, none⟩ = some (.slice vo val.length vc) := (G1.out.cell (p := ⟨w.heap.size, 3, none⟩) (by simp)).trans (by go_simp)
  have ze1 : w.heap.size < w1.heap.size := Nat.lt_of_lt_of_le (by simp) G1.out.size
  clear hb HCM
  go_wp2_with fail
  refine (rNumber_any (comL a key) _ (by omega)).mono ?_
  unfold RNumPost
  rintro e w2 ⟨va, rfl, ho, hb⟩
  have Nva := Lib.hid (IsB.of_own ho (numN_rng _))
  have Ova := Lib.hid (own_mono ho G1.out.size)
  have G2 : Hid (Below (w.alloc (.cells #[.slice ko key.length kc, .int .u64 ((s : Nat) : Int), .bool false, .slice vo val.length vc] 46)).heap.size (w.alloc (.cells #[.slice ko key.length kc, .int .u64 ((s : Nat) : Int), .bool false, .slice vo val.length vc] 46)) w2) := Lib.hid (bel_call G1.out hb)
  have HBS : Hid (Below w1.heap.size w1 w2) := Lib.hid hb
  obtain ⟨vao, vac, rfl, -, -, -, -⟩ := own_form ho
  clear ho hb e0 e1 e2 e3
  have e0 : w2.cell? ⟨w.heap.size, 0, none⟩ = some (.slice ko key.length kc) := (G2.out.cell (p := ⟨w.heap.size, 0, none⟩) (by simp)).trans (by go_simp)
  have e1 : w2.cell? ⟨w.heap.size, 1, none⟩ = some (.int .u64 ((s : Nat) : Int)) := (G2.out.cell (p := ⟨w.heap.size, 1, none⟩) (by simp)).trans (by go_simp)
  have e2 : w2.cell? ⟨w.heap.size, 2, none⟩ = some (.bool false) := (G2.out.cell (p := ⟨w.heap.size, 2, none⟩) (by simp)).trans (by go_simp)
  have e3 : w2.cell? ⟨w.heap.size, 3, none⟩ = some (.slice vo val.length vc) := (G2.out.cell (p := ⟨w.heap.size, 3, none⟩) (by simp)).trans (by go_simp)
  have zzva : w.heap.size < w2.heap.size := Nat.lt_of_lt_of_le (by simp) G2.out.size
  go_wp2_with fail
  refine (rNumber_any (key.length - comL a key) _ (by omega)).mono ?_
  have O0 : Hid (w2.ownsRow (w.alloc (.cells #[.slice ko key.length kc, .int .u64 ((s : Nat) : Int), .bool false, .slice vo val.length vc] 46)).heap.size 5 1 (.slice vao (numN (comL a key)).length vac) ((numN (comL a key)).length) ((numN (comL a key)).map (Value.int .u8))) := Ova
  unfold RNumPost
  rintro e w3 ⟨vb, rfl, ho, hb⟩
  have Nvb := Lib.hid (IsB.of_own ho (numN_rng _))
  have Ovb := Lib.hid (own_mono ho G2.out.size)
  have G3 : Hid (Below (w.alloc (.cells #[.slice ko key.length kc, .int .u64 ((s : Nat) : Int), .bool false, .slice vo val.length vc] 46)).heap.size (w.alloc (.cells #[.slice ko key.length kc, .int .u64 ((s : Nat) : Int), .bool false, .slice vo val.length vc] 46)) w3) := Lib.hid (bel_call G2.out hb)
  have HBS : Hid (Below w2.heap.size w2 w3) := Lib.hid hb
  obtain ⟨vbo, vbc, rfl, -, -, -, -⟩ := own_form ho
  clear ho hb e0 e1 e2 e3
  have e0 : w3.cell? ⟨w.heap.size, 0, none⟩ = some (.slice ko key.length kc) := (G3.out.cell (p := ⟨w.heap.size, 0, none⟩) (by simp)).trans (by go_simp)
  have e1 : w3.cell? ⟨w.heap.size, 1, none⟩ = some (.int .u64 ((s : Nat) : Int)) := (G3.out.cell (p := ⟨w.heap.size, 1, none⟩) (by simp)).trans (by go_simp)
  have e2 : w3.cell? ⟨w.heap.size, 2, none⟩ = some (.bool false) := (G3.out.cell (p := ⟨w.heap.size, 2, none⟩) (by simp)).trans (by go_simp)
  have e3 : w3.cell? ⟨w.heap.size, 3, none⟩ = some (.slice vo val.length vc) := (G3.out.cell (p := ⟨w.heap.size, 3, none⟩) (by simp)).trans (by go_simp)
  have zzvb : w.heap.size < w3.heap.size := Nat.lt_of_lt_of_le (by simp) G3.out.size
  replace O0 := Lib.hid (own_below O0.out HBS.out)
  go_wp2_with (at_builtin; refine wpList_append_bytes (w := w3) (base := (w.alloc (.cells #[.slice ko key.length kc, .int .u64 ((s : Nat) : Int), .bool false, .slice vo val.length vc] 46)).heap.size) (.tmp 22) (.tmp 23) _ rfl rfl i0 _ Try.underlying25 HI.out HZ0.out HZ1.out HZ2.out rfl _ (numN (comL a key)) (numN (key.length - (comL a key))) rfl rfl O0.out Nvb.out (by have := HSZ.out; simp only [List.length_append, List.length_singleton, List.length_drop] at this ⊢; omega) G3.out.size ?_; intro x1 w4 ho1 hb1; have O1 : Hid (w4.ownsRow (w.alloc (.cells #[.slice ko key.length kc, .int .u64 ((s : Nat) : Int), .bool false, .slice vo val.length vc] 46)).heap.size 5 1 x1 ((numN (comL a key)).length + (numN (key.length - (comL a key))).length) ((numN (comL a key) ++ numN (key.length - (comL a key))).map (Value.int .u8))) := Lib.hid (by first | exact ho1 | (rw [List.length_drop] at ho1; exact ho1)); have G4 : Hid (Below (w.alloc (.cells #[.slice ko key.length kc, .int .u64 ((s : Nat) : Int), .bool false, .slice vo val.length vc] 46)).heap.size (w.alloc (.cells #[.slice ko key.length kc, .int .u64 ((s : Nat) : Int), .bool false, .slice vo val.length vc] 46)) w4) := Lib.hid (G3.out.trans hb1); clear ho1 hb1 e0 e1 e2 e3; have e0 : w4.cell? ⟨w.heap.size, 0, none⟩ = some (.slice ko key.length kc) := (G4.out.cell (p := ⟨w.heap.size, 0, none⟩) (by simp)).trans (by go_simp); have e1 : w4.cell? ⟨w.heap.size, 1, none⟩ = some (.int .u64 ((s : Nat) : Int)) := (G4.out.cell (p := ⟨w.heap.size, 1, none⟩) (by simp)).trans (by go_simp); have e2 : w4.cell? ⟨w.heap.size, 2, none⟩ = some (.bool false) := (G4.out.cell (p := ⟨w.heap.size, 2, none⟩) (by simp)).trans (by go_simp); have e3 : w4.cell? ⟨w.heap.size, 3, none⟩ = some (.slice vo val.length vc) := (G4.out.cell (p := ⟨w.heap.size, 3, none⟩) (by simp)).trans (by go_simp); have ze1 : w.heap.size < w4.heap.size := Nat.lt_of_lt_of_le (by simp) G4.out.size; obtain ⟨xo1, xc1, rfl, -, -, -, -⟩ := own_form O1.out)
  refine (rNumber_any s _ hs).mono ?_
  unfold RNumPost
  rintro e w5 ⟨vd, rfl, ho, hb⟩
  have Nvd := Lib.hid (IsB.of_own ho (numN_rng _))
  have Ovd := Lib.hid (own_mono ho G4.out.size)
  have G5 : Hid (Below (w.alloc (.cells #[.slice ko key.length kc, .int .u64 ((s : Nat) : Int), .bool false, .slice vo val.length vc] 46)).heap.size (w.alloc (.cells #[.slice ko key.length kc, .int .u64 ((s : Nat) : Int), .bool false, .slice vo val.length vc] 46)) w5) := Lib.hid (bel_call G4.out hb)
  have HBS : Hid (Below w4.heap.size w4 w5) := Lib.hid hb
  obtain ⟨vdo, vdc, rfl, -, -, -, -⟩ := own_form ho
  clear ho hb e0 e1 e2 e3
  have e0 : w5.cell? ⟨w.heap.size, 0, none⟩ = some (.slice ko key.length kc) := (G5.out.cell (p := ⟨w.heap.size, 0, none⟩) (by simp)).trans (by go_simp)
  have e1 : w5.cell? ⟨w.heap.size, 1, none⟩ = some (.int .u64 ((s : Nat) : Int)) := (G5.out.cell (p := ⟨w.heap.size, 1, none⟩) (by simp)).trans (by go_simp)
  have e2 : w5.cell? ⟨w.heap.size, 2, none⟩ = some (.bool false) := (G5.out.cell (p := ⟨w.heap.size, 2, none⟩) (by simp)).trans (by go_simp)
  have e3 : w5.cell? ⟨w.heap.size, 3, none⟩ = some (.slice vo val.length vc) := (G5.out.cell (p := ⟨w.heap.size, 3, none⟩) (by simp)).trans (by go_simp)
  have zzvd : w.heap.size < w5.heap.size := Nat.lt_of_lt_of_le (by simp) G5.out.size
  replace O1 := Lib.hid (own_below O1.out HBS.out)
  go_wp2_with first
    | (at_builtin; refine wpList_append_bytes (w := w5) (base := (w.alloc (.cells #[.slice ko key.length kc, .int .u64 ((s : Nat) : Int), .bool false, .slice vo val.length vc] 46)).heap.size) (.tmp 28) (.tmp 29) _ rfl rfl i0 _ Try.underlying25 HI.out HZ0.out HZ1.out HZ2.out rfl _ (numN (comL a key) ++ numN (key.length - (comL a key))) (numN s) rfl rfl O1.out Nvd.out (by have := HSZ.out; simp only [List.length_append, List.length_singleton, List.length_drop] at this ⊢; omega) G5.out.size ?_; intro x2 w6 ho2 hb2; have O2 : Hid (w6.ownsRow (w.alloc (.cells #[.slice ko key.length kc, .int .u64 ((s : Nat) : Int), .bool false, .slice vo val.length vc] 46)).heap.size 5 1 x2 ((numN (comL a key)).length + (numN (key.length - (comL a key))).length + (numN s).length) ((numN (comL a key) ++ numN (key.length - (comL a key)) ++ numN s).map (Value.int .u8))) := Lib.hid (by first | exact ho2 | (rw [List.length_drop] at ho2; exact ho2)); have G6 : Hid (Below (w.alloc (.cells #[.slice ko key.length kc, .int .u64 ((s : Nat) : Int), .bool false, .slice vo val.length vc] 46)).heap.size (w.alloc (.cells #[.slice ko key.length kc, .int .u64 ((s : Nat) : Int), .bool false, .slice vo val.length vc] 46)) w6) := Lib.hid (G5.out.trans hb2); clear ho2 hb2 e0 e1 e2 e3; have e0 : w6.cell? ⟨w.heap.size, 0, none⟩ = some (.slice ko key.length kc) := (G6.out.cell (p := ⟨w.heap.size, 0, none⟩) (by simp)).trans (by go_simp); have e1 : w6.cell? ⟨w.heap.size, 1, none⟩ = some (.int .u64 ((s : Nat) : Int)) := (G6.out.cell (p := ⟨w.heap.size, 1, none⟩) (by simp)).trans (by go_simp); have e2 : w6.cell? ⟨w.heap.size, 2, none⟩ = some (.bool false) := (G6.out.cell (p := ⟨w.heap.size, 2, none⟩) (by simp)).trans (by go_simp); have e3 : w6.cell? ⟨w.heap.size, 3, none⟩ = some (.slice vo val.length vc) := (G6.out.cell (p := ⟨w.heap.size, 3, none⟩) (by simp)).trans (by go_simp); have ze2 : w.heap.size < w6.heap.size := Nat.lt_of_lt_of_le (by simp) G6.out.size; obtain ⟨xo2, xc2, rfl, -, -, -, -⟩ := own_form O2.out)
    | (at_builtin; refine wpList_append_one (w := w6) (base := (w.alloc (.cells #[.slice ko key.length kc, .int .u64 ((s : Nat) : Int), .bool false, .slice vo val.length vc] 46)).heap.size) (.tmp 36) (.tmp 37) _ rfl rfl i0 _ 1 Try.underlying25 HI.out HZ0.out HZ1.out HZ2.out rfl (.int .u8 0) rfl rfl O2.out rfl (by have := HSZ.out; simp only [List.length_append, List.length_singleton, List.length_drop] at this ⊢; omega) (by have := HSZ.out; simp only [List.length_append, List.length_singleton, List.length_drop] at this ⊢; omega) G6.out.size ?_; intro x3 w7 ho3 hb3; have O3 : Hid (w7.ownsRow (w.alloc (.cells #[.slice ko key.length kc, .int .u64 ((s : Nat) : Int), .bool false, .slice vo val.length vc] 46)).heap.size 5 1 x3 ((numN (comL a key)).length + (numN (key.length - (comL a key))).length + (numN s).length + 1) ((numN (comL a key) ++ numN (key.length - (comL a key)) ++ numN s ++ [(0 : Int)]).map (Value.int .u8))) := Lib.hid (by rw [List.map_append]; exact ho3); have G7 : Hid (Below (w.alloc (.cells #[.slice ko key.length kc, .int .u64 ((s : Nat) : Int), .bool false, .slice vo val.length vc] 46)).heap.size (w.alloc (.cells #[.slice ko key.length kc, .int .u64 ((s : Nat) : Int), .bool false, .slice vo val.length vc] 46)) w7) := Lib.hid (G6.out.trans hb3); clear ho3 hb3 e0 e1 e2 e3; have e0 : w7.cell? ⟨w.heap.size, 0, none⟩ = some (.slice ko key.length kc) := (G7.out.cell (p := ⟨w.heap.size, 0, none⟩) (by simp)).trans (by go_simp); have e1 : w7.cell? ⟨w.heap.size, 1, none⟩ = some (.int .u64 ((s : Nat) : Int)) := (G7.out.cell (p := ⟨w.heap.size, 1, none⟩) (by simp)).trans (by go_simp); have e2 : w7.cell? ⟨w.heap.size, 2, none⟩ = some (.bool false) := (G7.out.cell (p := ⟨w.heap.size, 2, none⟩) (by simp)).trans (by go_simp); have e3 : w7.cell? ⟨w.heap.size, 3, none⟩ = some (.slice vo val.length vc) := (G7.out.cell (p := ⟨w.heap.size, 3, none⟩) (by simp)).trans (by go_simp); have ze7 : w.heap.size < w7.heap.size := Nat.lt_of_lt_of_le (by simp) G7.out.size; obtain ⟨xo3, xc3, rfl, -, -, -, -⟩ := own_form O3.out)
  refine (rNumber_any val.length _ (by omega)).mono ?_
  unfold RNumPost
  rintro e w8 ⟨vf, rfl, ho, hb⟩
  have Nvf := Lib.hid (IsB.of_own ho (numN_rng _))
  have Ovf := Lib.hid (own_mono ho G7.out.size)
  have G8 : Hid (Below (w.alloc (.cells #[.slice ko key.length kc, .int .u64 ((s : Nat) : Int), .bool false, .slice vo val.length vc] 46)).heap.size (w.alloc (.cells #[.slice ko key.length kc, .int .u64 ((s : Nat) : Int), .bool false, .slice vo val.length vc] 46)) w8) := Lib.hid (bel_call G7.out hb)
  have HBS : Hid (Below w7.heap.size w7 w8) := Lib.hid hb
  obtain ⟨vfo, vfc, rfl, -, -, -, -⟩ := own_form ho
  clear ho hb e0 e1 e2 e3
  have e0 : w8.cell? ⟨w.heap.size, 0, none⟩ = some (.slice ko key.length kc) := (G8.out.cell (p := ⟨w.heap.size, 0, none⟩) (by simp)).trans (by go_simp)
  have e1 : w8.cell? ⟨w.heap.size, 1, none⟩ = some (.int .u64 ((s : Nat) : Int)) := (G8.out.cell (p := ⟨w.heap.size, 1, none⟩) (by simp)).trans (by go_simp)
  have e2 : w8.cell? ⟨w.heap.size, 2, none⟩ = some (.bool false) := (G8.out.cell (p := ⟨w.heap.size, 2, none⟩) (by simp)).trans (by go_simp)
  have e3 : w8.cell? ⟨w.heap.size, 3, none⟩ = some (.slice vo val.length vc) := (G8.out.cell (p := ⟨w.heap.size, 3, none⟩) (by simp)).trans (by go_simp)
  have zzvf : w.heap.size < w8.heap.size := Nat.lt_of_lt_of_le (by simp) G8.out.size
  replace O3 := Lib.hid (own_below O3.out HBS.out)
  go_wp2_with first
    | (at_builtin; refine wpList_append_bytes (w := w8) (base := (w.alloc (.cells #[.slice ko key.length kc, .int .u64 ((s : Nat) : Int), .bool false, .slice vo val.length vc] 46)).heap.size) (.tmp 44) (.tmp 45) _ rfl rfl i0 _ Try.underlying25 HI.out HZ0.out HZ1.out HZ2.out rfl _ (numN (comL a key) ++ numN (key.length - (comL a key)) ++ numN s ++ [(0 : Int)]) (numN val.length) rfl rfl O3.out Nvf.out (by have := HSZ.out; simp only [List.length_append, List.length_singleton, List.length_drop] at this ⊢; omega) G8.out.size ?_; intro x4 w9 ho4 hb4; have O4 : Hid (w9.ownsRow (w.alloc (.cells #[.slice ko key.length kc, .int .u64 ((s : Nat) : Int), .bool false, .slice vo val.length vc] 46)).heap.size 5 1 x4 ((numN (comL a key)).length + (numN (key.length - (comL a key))).length + (numN s).length + 1 + (numN val.length).length) ((numN (comL a key) ++ numN (key.length - (comL a key)) ++ numN s ++ [(0 : Int)] ++ numN val.length).map (Value.int .u8))) := Lib.hid (by first | exact ho4 | (rw [List.length_drop] at ho4; exact ho4)); have G9 : Hid (Below (w.alloc (.cells #[.slice ko key.length kc, .int .u64 ((s : Nat) : Int), .bool false, .slice vo val.length vc] 46)).heap.size (w.alloc (.cells #[.slice ko key.length kc, .int .u64 ((s : Nat) : Int), .bool false, .slice vo val.length vc] 46)) w9) := Lib.hid (G8.out.trans hb4); clear ho4 hb4 e0 e1 e2 e3; have e0 : w9.cell? ⟨w.heap.size, 0, none⟩ = some (.slice ko key.length kc) := (G9.out.cell (p := ⟨w.heap.size, 0, none⟩) (by simp)).trans (by go_simp); have e1 : w9.cell? ⟨w.heap.size, 1, none⟩ = some (.int .u64 ((s : Nat) : Int)) := (G9.out.cell (p := ⟨w.heap.size, 1, none⟩) (by simp)).trans (by go_simp); have e2 : w9.cell? ⟨w.heap.size, 2, none⟩ = some (.bool false) := (G9.out.cell (p := ⟨w.heap.size, 2, none⟩) (by simp)).trans (by go_simp); have e3 : w9.cell? ⟨w.heap.size, 3, none⟩ = some (.slice vo val.length vc) := (G9.out.cell (p := ⟨w.heap.size, 3, none⟩) (by simp)).trans (by go_simp); have ze4 : w.heap.size < w9.heap.size := Nat.lt_of_lt_of_le (by simp) G9.out.size; obtain ⟨xo4, xc4, rfl, -, -, -, -⟩ := own_form O4.out)
    | (at_builtin; refine wpList_append_bytes (w := w9) (base := (w.alloc (.cells #[.slice ko key.length kc, .int .u64 ((s : Nat) : Int), .bool false, .slice vo val.length vc] 46)).heap.size) (.tmp 47) (.tmp 51) _ rfl rfl i0 _ Try.underlying25 HI.out HZ0.out HZ1.out HZ2.out rfl _ (numN (comL a key) ++ numN (key.length - (comL a key)) ++ numN s ++ [(0 : Int)] ++ numN val.length) (key.drop (comL a key)) rfl rfl O4.out (isB_suf (HK.out.below G9.out) (by omega) (by omega) rfl (by first | exact .inr rfl | (simp; done) | (simp; omega))) (by have := HSZ.out; simp only [List.length_append, List.length_singleton, List.length_drop] at this ⊢; omega) G9.out.size ?_; intro x5 w10 ho5 hb5; have O5 : Hid (w10.ownsRow (w.alloc (.cells #[.slice ko key.length kc, .int .u64 ((s : Nat) : Int), .bool false, .slice vo val.length vc] 46)).heap.size 5 1 x5 ((numN (comL a key)).length + (numN (key.length - (comL a key))).length + (numN s).length + 1 + (numN val.length).length + (key.length - (comL a key))) ((numN (comL a key) ++ numN (key.length - (comL a key)) ++ numN s ++ [(0 : Int)] ++ numN val.length ++ key.drop (comL a key)).map (Value.int .u8))) := Lib.hid (by first | exact ho5 | (rw [List.length_drop] at ho5; exact ho5)); have G10 : Hid (Below (w.alloc (.cells #[.slice ko key.length kc, .int .u64 ((s : Nat) : Int), .bool false, .slice vo val.length vc] 46)).heap.size (w.alloc (.cells #[.slice ko key.length kc, .int .u64 ((s : Nat) : Int), .bool false, .slice vo val.length vc] 46)) w10) := Lib.hid (G9.out.trans hb5); clear ho5 hb5 e0 e1 e2 e3; have e0 : w10.cell? ⟨w.heap.size, 0, none⟩ = some (.slice ko key.length kc) := (G10.out.cell (p := ⟨w.heap.size, 0, none⟩) (by simp)).trans (by go_simp); have e1 : w10.cell? ⟨w.heap.size, 1, none⟩ = some (.int .u64 ((s : Nat) : Int)) := (G10.out.cell (p := ⟨w.heap.size, 1, none⟩) (by simp)).trans (by go_simp); have e2 : w10.cell? ⟨w.heap.size, 2, none⟩ = some (.bool false) := (G10.out.cell (p := ⟨w.heap.size, 2, none⟩) (by simp)).trans (by go_simp); have e3 : w10.cell? ⟨w.heap.size, 3, none⟩ = some (.slice vo val.length vc) := (G10.out.cell (p := ⟨w.heap.size, 3, none⟩) (by simp)).trans (by go_simp); have ze5 : w.heap.size < w10.heap.size := Nat.lt_of_lt_of_le (by simp) G10.out.size; obtain ⟨xo5, xc5, rfl, -, -, -, -⟩ := own_form O5.out)
    | (at_builtin; refine wpList_append_bytes (w := w10) (base := (w.alloc (.cells #[.slice ko key.length kc, .int .u64 ((s : Nat) : Int), .bool false, .slice vo val.length vc] 46)).heap.size) (.tmp 53) (.tmp 55) _ rfl rfl i0 _ Try.underlying25 HI.out HZ0.out HZ1.out HZ2.out rfl _ (numN (comL a key) ++ numN (key.length - (comL a key)) ++ numN s ++ [(0 : Int)] ++ numN val.length ++ key.drop (comL a key)) (val) rfl rfl O5.out (HV.out.below G10.out) (by have := HSZ.out; simp only [List.length_append, List.length_singleton, List.length_drop] at this ⊢; omega) G10.out.size ?_; intro x6 w11 ho6 hb6; have O6 : Hid (w11.ownsRow (w.alloc (.cells #[.slice ko key.length kc, .int .u64 ((s : Nat) : Int), .bool false, .slice vo val.length vc] 46)).heap.size 5 1 x6 ((numN (comL a key)).length + (numN (key.length - (comL a key))).length + (numN s).length + 1 + (numN val.length).length + (key.length - (comL a key)) + val.length) ((numN (comL a key) ++ numN (key.length - (comL a key)) ++ numN s ++ [(0 : Int)] ++ numN val.length ++ key.drop (comL a key) ++ val).map (Value.int .u8))) := Lib.hid (by first | exact ho6 | (rw [List.length_drop] at ho6; exact ho6)); have G11 : Hid (Below (w.alloc (.cells #[.slice ko key.length kc, .int .u64 ((s : Nat) : Int), .bool false, .slice vo val.length vc] 46)).heap.size (w.alloc (.cells #[.slice ko key.length kc, .int .u64 ((s : Nat) : Int), .bool false, .slice vo val.length vc] 46)) w11) := Lib.hid (G10.out.trans hb6); clear ho6 hb6 e0 e1 e2 e3; have e0 : w11.cell? ⟨w.heap.size, 0, none⟩ = some (.slice ko key.length kc) := (G11.out.cell (p := ⟨w.heap.size, 0, none⟩) (by simp)).trans (by go_simp); have e1 : w11.cell? ⟨w.heap.size, 1, none⟩ = some (.int .u64 ((s : Nat) : Int)) := (G11.out.cell (p := ⟨w.heap.size, 1, none⟩) (by simp)).trans (by go_simp); have e2 : w11.cell? ⟨w.heap.size, 2, none⟩ = some (.bool false) := (G11.out.cell (p := ⟨w.heap.size, 2, none⟩) (by simp)).trans (by go_simp); have e3 : w11.cell? ⟨w.heap.size, 3, none⟩ = some (.slice vo val.length vc) := (G11.out.cell (p := ⟨w.heap.size, 3, none⟩) (by simp)).trans (by go_simp); have ze6 : w.heap.size < w11.heap.size := Nat.lt_of_lt_of_le (by simp) G11.out.size; obtain ⟨xo6, xc6, rfl, -, -, -, -⟩ := own_form O6.out)
  all_goals
    go_ret
    refine ⟨_, rfl, ?_, bel_call (bel_alloc (Below.refl _ w) _) G11.out⟩
    rw [HLAY.out]
    have h9 := own_mono O6.out (show w.heap.size ≤ (w.alloc (.cells #[.slice ko key.length kc, .int .u64 ((s : Nat) : Int), .bool false, .slice vo val.length vc] 46)).heap.size by simp)
    exact OwnS.of_own h9 (HRNG.out)

theorem laid_any (av kv vv : Value) (a : List Int) (x : En) (w : World) (ha : IsB w av a) (hk : IsB w kv x.1) (hv : IsB w vv x.2.2.2) (hm : mayB x = true) :
    Calls Try.prog 57 #[av, .agg #[kv, .int .u64 x.2.1, .bool x.2.2.1, vv]] w (LaidP (layS a x) w) := by
  obtain ⟨key, seq, del, val⟩ := x
  unfold mayB at hm
  simp only [Bool.and_eq_true, decide_eq_true_eq] at hm hk hv ⊢
  obtain ⟨s, rfl⟩ : ∃ s : Nat, seq = (s : Int) := ⟨seq.toNat, by omega⟩
  cases del with
  | true => exact laid_true av kv vv a key val s w ha hk hv (by omega) (by omega) (by omega)
  | false => exact laid_false av kv vv a key val s w ha hk hv (by omega) (by omega) (by omega)
end Ss
end Go.Proofs.Ytmojbamloanleaa
