/- sstable: numbers in eight and four bytes (walks). sstable: numbers in eight and four bytes, the program's (walks). sstable: how many entries each block has (walk of the reference's Cuts). -/
import Derived.Test.YtmojbamloanleaaSs3
import Derived.Test.YtmojbamloanleaaSs4
set_option linter.unusedVariables false
set_option linter.unusedSimpArgs false
namespace Go.Proofs.Ytmojbamloanleaa
open Go.RowKit
namespace Ss
open Mt Codec
theorem hiB_at (n : Nat) : ∀ k j, j < k → (hiB n k)[j]? = some (((n / 256 ^ (k - 1 - j)) % 256 : Nat) : Int)
  | 0, j, h => by omega
  | k + 1, 0, _ => by simp [hiB]
  | k + 1, j + 1, h => by
    rw [hiB, List.getElem?_cons_succ, hiB_at n k j (by omega), show k + 1 - 1 - (j + 1) = k - 1 - j by omega]
theorem hiB_rng (n : Nat) : ∀ k, Rng (hiB n k)
  | 0 => Rng.nil
  | k + 1 => Rng.cons (by omega) (hiB_rng n k)
theorem fill_step {l : List Int} {q : Nat} {x : Int} (hx : l[q]? = some x) : (List.replicate (q + 1) 0 ++ l.drop (q + 1)).set q x = List.replicate q 0 ++ l.drop q := by
  have hl := (List.getElem?_eq_some_iff.1 hx).1
  apply List.ext_getElem?
  intro i
  by_cases hi : i = q
  · subst hi
    rw [List.getElem?_set_self (by simp; omega), List.getElem?_append_right (by simp)]
    simp [hx]
  · rw [List.getElem?_set_ne (by omega)]
    by_cases h2 : i < q
    · rw [List.getElem?_append_left (by simp; omega), List.getElem?_append_left (by simp; omega)]
      simp [List.getElem?_replicate, h2, (by omega : i < q + 1)]
    · rw [List.getElem?_append_right (by simp; omega), List.getElem?_append_right (by simp; omega)]
      simp only [List.length_replicate, List.getElem?_drop]
      congr 1
      omega
theorem own8 (w : World) : OwnS (w.alloc (.cells #[.int .u8 0, .int .u8 0, .int .u8 0, .int .u8 0, .int .u8 0, .int .u8 0, .int .u8 0, .int .u8 0] 5)) w.heap.size 5 (.slice (some ⟨w.heap.size, 0, none⟩) 8 8) (List.replicate 8 0) :=
  OwnS.of_own (l := List.replicate 8 0) (n := 8) (World.ownsRow_lit w #[.int .u8 0, .int .u8 0, .int .u8 0, .int .u8 0, .int .u8 0, .int .u8 0, .int .u8 0, .int .u8 0] 8 (Nat.le_refl _) (by simp [maxLen]) (by simp)) (fun x hx => by rw [(List.mem_replicate.1 hx).2]; omega)
/-- a row that is full -/
def FullP (l : List Int) (w : World) (e : Ending) (w' : World) : Prop := ∃ ao, e = .returned (.slice ao l.length l.length) ∧ OwnS w' w.heap.size 5 (.slice ao l.length l.length) l ∧ Below w.heap.size w w'
set_option maxRecDepth 100000 in
set_option maxHeartbeats 4000000 in
theorem eight_any (n : Nat) (w : World) (hn : n < 18446744073709551616) : Calls Try.prog 60 #[.int .u64 n] w (FullP (hiB n 8) w) := by
  have hmk : ∀ w, (Instr.makeSlice 25 (.int .i64 8) (.int .i64 8)).run Try.prog w = .ok (.slice (some ⟨w.heap.size, 0, none⟩) 8 8) (w.alloc (.cells #[.int .u8 0, .int .u8 0, .int .u8 0, .int .u8 0, .int .u8 0, .int .u8 0, .int .u8 0, .int .u8 0] 5)) := fun _ => by kernel_rfl
  have HN := Lib.hid hn
  clear hn
  go_enter Try.func60, Try.ntmps60
  go_wp2_with fail
  go_loopw [0, 4] (fun m i wr => ∃ j : Nat, j ≤ 8 ∧ i = .int .i64 ((j : Int) - 1) ∧ m = .int .u64 ((n / 256 ^ (8 - j) : Nat) : Int) ∧ Hid (OwnS wr w.heap.size 5 (.slice (some ⟨w.heap.size, 0, none⟩) 8 8) (List.replicate j 0 ++ (hiB n 8).drop j)) ∧ Hid (Below w.heap.size w wr)) (fun _ i _ => (intOf i + 1).toNat)
  case atStart => exact ⟨8, Nat.le_refl _, by go_num, by simp, by rw [List.drop_of_length_le (by rw [hiB_len]; exact Nat.le_refl _), List.append_nil]; exact own8 w, bel_alloc (Below.refl _ w) _⟩
  case round =>
    obtain ⟨j, hj, rfl, rfl, ho, hb⟩ := hrel
    rcases j with _ | q
    · have e0 : ((0 : Nat) : Int) - 1 = -1 := by omega
      rw [e0]
      clear e0
      go_wp2_with fail
      go_ret
      have h9 := ho.out
      rw [List.drop_zero] at h9
      exact ⟨some ⟨w.heap.size, 0, none⟩, by rw [hiB_len]; rfl, by rw [hiB_len]; simpa using h9, hb.out⟩
    · have e0 : ((q + 1 : Nat) : Int) - 1 = (q : Int) := by omega
      rw [e0]
      have hlen : (List.replicate (q + 1) (0 : Int) ++ (hiB n 8).drop (q + 1)).length = 8 := by rw [List.length_append, List.length_replicate, List.length_drop, hiB_len]; omega
      have HLEN := Lib.hid hlen
      obtain ⟨g, x, hg, hg1, hg2, -, hc, hf⟩ := ho.out.at_ (k := q) (by omega)
      cases hg
      have hx := hiB_at n 8 q (by omega)
      have ex : n / 256 ^ (8 - 1 - q) % 256 = n / 256 ^ (8 - (q + 1)) % 256 := by rw [show 8 - 1 - q = 8 - (q + 1) by omega]
      have hd : n / 256 ^ (8 - q) = n / 256 ^ (8 - (q + 1)) / 256 := by
        rw [Nat.div_div_eq_div_mul, ← Nat.pow_succ]
        congr 2
        omega
      have HX : Hid ((hiB n 8)[q]? = some (((n / 256 ^ (8 - (q + 1)) % 256 : Nat) : Int))) := Lib.hid (by rw [hx, ex])
      have HD := Lib.hid hd
      have hle : n / 256 ^ (8 - (q + 1)) ≤ n := Nat.div_le_self _ _
      have hn9 := HN.out
      clear hx ex hd hlen e0
      generalize n / 256 ^ (8 - (q + 1)) = m at *
      have q1 : Int.tmod (m : Int) 256 = ((m % 256 : Nat) : Int) := rfl
      have q2 : Int.tdiv (m : Int) 256 = ((m / 256 : Nat) : Int) := rfl
      have q3 := IntWalk.u8_in ((m % 256 : Nat) : Int) (by omega)
      have q4 := IntWalk.u64_in ((m % 256 : Nat) : Int) (by omega)
      have q5 := IntWalk.u64_in ((m / 256 : Nat) : Int) (by omega)
      have q6 := IntWalk.i64_in ((q : Int) - 1) (by omega)
      have q7 : (0 : Int) ≤ q := by omega
      have q8 : (q : Int) < 8 := by omega
      have HMB : Hid ((m % 256 : Nat) ≤ 255) := Lib.hid (by omega)
      go_wp2_with fail
      refine ⟨⟨q, by omega, by go_num, ?_, ?_, hb.out.setCell (p := ⟨w.heap.size, q, none⟩) (Nat.le_refl _) _⟩, ?_⟩
      · rw [HD.out]
        first | rfl | go_num
      · have hs := OwnS.stored (g := w.heap.size) (cap := 8) (k := q) (x := ((m % 256 : Nat) : Int)) (by rw [HLEN.out]; exact ho.out) (by rw [HLEN.out]; omega) ⟨by omega, by have := HMB.out; omega⟩
        rw [HLEN.out, fill_step HX.out] at hs
        exact hs
      · simp [intOf] <;> omega
end Ss
end Go.Proofs.Ytmojbamloanleaa
namespace Go.Proofs.Ytmojbamloanleaa
open Go.RowKit
namespace Ss
open Mt Codec
theorem shr_byte (n e m : Nat) (he : e = 8 * m) : ((n : Int) / 2 ^ e % 256) = ((n / 256 ^ m % 256 : Nat) : Int) := by
  subst he
  have h : (2 : Int) ^ (8 * m) = ((256 ^ m : Nat) : Int) := by
    have h2 : (2 : Nat) ^ (8 * m) = 256 ^ m := by rw [Nat.pow_mul]
    rw [← h2, Int.natCast_pow]
    rfl
  rw [h, Int.natCast_emod, Int.natCast_ediv]
  rfl
theorem fill_up {l : List Int} {k j : Nat} {x : Int} (hx : l[j]? = some x) (hl : l.length = k) : (l.take j ++ List.replicate (k - j) 0).set j x = l.take (j + 1) ++ List.replicate (k - (j + 1)) 0 := by
  have hj := (List.getElem?_eq_some_iff.1 hx).1
  apply List.ext_getElem?
  intro i
  by_cases hi : i = j
  · subst hi
    rw [List.getElem?_set_self (by simp; omega), List.getElem?_append_left (by simp; omega), List.getElem?_take, if_pos (by omega), hx]
  · rw [List.getElem?_set_ne (by omega)]
    by_cases h2 : i < j
    · rw [List.getElem?_append_left (by simp; omega), List.getElem?_append_left (by simp; omega), List.getElem?_take, List.getElem?_take, if_pos h2, if_pos (by omega)]
    · rw [List.getElem?_append_right (by simp; omega), List.getElem?_append_right (by simp; omega)]
      simp only [List.length_take, List.getElem?_replicate]
      have e : (i - min j l.length < k - j) ↔ (i - min (j + 1) l.length < k - (j + 1)) := by omega
      by_cases h3 : i - min j l.length < k - j
      · rw [if_pos h3, if_pos (e.1 h3)]
      · rw [if_neg h3, if_neg (fun h => h3 (e.2 h))]
theorem own8h (w : World) : OwnS (w.alloc (.cells #[.int .u8 0, .int .u8 0, .int .u8 0, .int .u8 0, .int .u8 0, .int .u8 0, .int .u8 0, .int .u8 0] 5)) w.heap.size 5 (.slice (some ⟨w.heap.size, 0, none⟩) 8 8) (List.replicate 8 0) :=
  OwnS.of_own (l := List.replicate 8 0) (n := 8) (World.ownsRow_lit w #[.int .u8 0, .int .u8 0, .int .u8 0, .int .u8 0, .int .u8 0, .int .u8 0, .int .u8 0, .int .u8 0] 8 (Nat.le_refl _) (by simp [maxLen]) (by simp)) (fun x hx => by rw [(List.mem_replicate.1 hx).2]; omega)
set_option maxRecDepth 100000 in
set_option maxHeartbeats 4000000 in
theorem high8_any (n : Nat) (w : World) (hn : n ≤ 9223372036854775807) : Calls Try.prog 69 #[.int .i64 n, .int .i64 8] w (LaidP (hiB n 8) w) := by
  have hmk : ∀ w, (Instr.makeSlice 25 (.int .i64 8) (.int .i64 8)).run Try.prog w = .ok (.slice (some ⟨w.heap.size, 0, none⟩) 8 8) (w.alloc (.cells #[.int .u8 0, .int .u8 0, .int .u8 0, .int .u8 0, .int .u8 0, .int .u8 0, .int .u8 0, .int .u8 0] 5)) := fun _ => by kernel_rfl
  have HN := Lib.hid hn
  clear hn
  go_enter Try.func69, Try.ntmps69
  go_wp2_with fail
  go_loopw [11] (fun i wr => ∃ j : Nat, j ≤ 8 ∧ i = .int .i64 j ∧ Hid (OwnS wr w.heap.size 5 (.slice (some ⟨w.heap.size, 0, none⟩) 8 8) ((hiB n 8).take j ++ List.replicate (8 - j) 0)) ∧ Hid (Below w.heap.size w wr)) (fun i _ => 8 - (intOf i).toNat)
  case atStart => exact ⟨0, Nat.zero_le _, rfl, own8h w, bel_alloc (Below.refl _ w) _⟩
  case round =>
    obtain ⟨j, hj, rfl, ho, hb⟩ := hrel
    by_cases hjk : j < 8
    · have hlen : ((hiB n 8).take j ++ List.replicate (8 - j) (0 : Int)).length = 8 := by rw [List.length_append, List.length_replicate, List.length_take, hiB_len]; omega
      have HLEN := Lib.hid hlen
      obtain ⟨g, x, hg, hg1, hg2, -, hc, hf⟩ := ho.out.at_ (k := j) (by omega)
      cases hg
      have HX := Lib.hid (hiB_at n 8 j hjk)
      have p0 : (j : Int) < 8 := by omega
      have p1 := IntWalk.i64_in ((j : Int) + 1) (by omega)
      have p2 := IntWalk.i64_in ((8 : Int) - 1 - j) (by omega)
      have p2' := IntWalk.i64_in (((8 - 1 : Nat) : Int) - j) (by omega)
      have p3 : ((8 : Int) - 1 - j) = ((8 - 1 - j : Nat) : Int) := by omega
      have p4 := IntWalk.i64_in (8 * ((8 - 1 - j : Nat) : Int)) (by omega)
      have HJ := Lib.hid hjk
      clear hjk hlen
      go_wp2_with fail
      refine ⟨⟨j + 1, by have := HJ.out; omega, by go_num, ?_, hb.out.setCell (p := ⟨w.heap.size, j, none⟩) (Nat.le_refl _) _⟩, ?_⟩
      · rw [shr_byte n (8 * (8 - 1 - j)) (8 - 1 - j) rfl]
        have hs := OwnS.stored (g := w.heap.size) (cap := 8) (k := j) (x := ((n / 256 ^ (8 - 1 - j) % 256 : Nat) : Int)) (by rw [HLEN.out]; exact ho.out) (by rw [HLEN.out]; exact HJ.out) ⟨by omega, by omega⟩
        rw [HLEN.out, fill_up HX.out (hiB_len n 8)] at hs
        exact hs
      · have := HJ.out
        simp [intOf] <;> omega
    · have hje : j = 8 := by omega
      subst hje
      have p0 : ¬ ((8 : Nat) : Int) < 8 := by omega
      clear hjk
      go_wp2_with fail
      go_ret
      have h9 := ho.out
      rw [List.take_of_length_le (by rw [hiB_len]; exact Nat.le_refl _), Nat.sub_self, List.replicate_zero, List.append_nil] at h9
      exact ⟨_, rfl, h9, hb.out⟩

theorem own4h (w : World) : OwnS (w.alloc (.cells #[.int .u8 0, .int .u8 0, .int .u8 0, .int .u8 0] 5)) w.heap.size 5 (.slice (some ⟨w.heap.size, 0, none⟩) 4 4) (List.replicate 4 0) :=
  OwnS.of_own (l := List.replicate 4 0) (n := 4) (World.ownsRow_lit w #[.int .u8 0, .int .u8 0, .int .u8 0, .int .u8 0] 4 (Nat.le_refl _) (by simp [maxLen]) (by simp)) (fun x hx => by rw [(List.mem_replicate.1 hx).2]; omega)
set_option maxRecDepth 100000 in
set_option maxHeartbeats 4000000 in
theorem high4_any (n : Nat) (w : World) (hn : n ≤ 9223372036854775807) : Calls Try.prog 69 #[.int .i64 n, .int .i64 4] w (LaidP (hiB n 4) w) := by
  have hmk : ∀ w, (Instr.makeSlice 25 (.int .i64 4) (.int .i64 4)).run Try.prog w = .ok (.slice (some ⟨w.heap.size, 0, none⟩) 4 4) (w.alloc (.cells #[.int .u8 0, .int .u8 0, .int .u8 0, .int .u8 0] 5)) := fun _ => by kernel_rfl
  have HN := Lib.hid hn
  clear hn
  go_enter Try.func69, Try.ntmps69
  go_wp2_with fail
  go_loopw [11] (fun i wr => ∃ j : Nat, j ≤ 4 ∧ i = .int .i64 j ∧ Hid (OwnS wr w.heap.size 5 (.slice (some ⟨w.heap.size, 0, none⟩) 4 4) ((hiB n 4).take j ++ List.replicate (4 - j) 0)) ∧ Hid (Below w.heap.size w wr)) (fun i _ => 4 - (intOf i).toNat)
  case atStart => exact ⟨0, Nat.zero_le _, rfl, own4h w, bel_alloc (Below.refl _ w) _⟩
  case round =>
    obtain ⟨j, hj, rfl, ho, hb⟩ := hrel
    by_cases hjk : j < 4
    · have hlen : ((hiB n 4).take j ++ List.replicate (4 - j) (0 : Int)).length = 4 := by rw [List.length_append, List.length_replicate, List.length_take, hiB_len]; omega
      have HLEN := Lib.hid hlen
      obtain ⟨g, x, hg, hg1, hg2, -, hc, hf⟩ := ho.out.at_ (k := j) (by omega)
      cases hg
      have HX := Lib.hid (hiB_at n 4 j hjk)
      have p0 : (j : Int) < 4 := by omega
      have p1 := IntWalk.i64_in ((j : Int) + 1) (by omega)
      have p2 := IntWalk.i64_in ((4 : Int) - 1 - j) (by omega)
      have p2' := IntWalk.i64_in (((4 - 1 : Nat) : Int) - j) (by omega)
      have p3 : ((4 : Int) - 1 - j) = ((4 - 1 - j : Nat) : Int) := by omega
      have p4 := IntWalk.i64_in (8 * ((4 - 1 - j : Nat) : Int)) (by omega)
      have HJ := Lib.hid hjk
      clear hjk hlen
      go_wp2_with fail
      refine ⟨⟨j + 1, by have := HJ.out; omega, by go_num, ?_, hb.out.setCell (p := ⟨w.heap.size, j, none⟩) (Nat.le_refl _) _⟩, ?_⟩
      · rw [shr_byte n (8 * (4 - 1 - j)) (4 - 1 - j) rfl]
        have hs := OwnS.stored (g := w.heap.size) (cap := 4) (k := j) (x := ((n / 256 ^ (4 - 1 - j) % 256 : Nat) : Int)) (by rw [HLEN.out]; exact ho.out) (by rw [HLEN.out]; exact HJ.out) ⟨by omega, by omega⟩
        rw [HLEN.out, fill_up HX.out (hiB_len n 4)] at hs
        exact hs
      · have := HJ.out
        simp [intOf] <;> omega
    · have hje : j = 4 := by omega
      subst hje
      have p0 : ¬ ((4 : Nat) : Int) < 4 := by omega
      clear hjk
      go_wp2_with fail
      go_ret
      have h9 := ho.out
      rw [List.take_of_length_le (by rw [hiB_len]; exact Nat.le_refl _), Nat.sub_self, List.replicate_zero, List.append_nil] at h9
      exact ⟨_, rfl, h9, hb.out⟩

end Ss
end Go.Proofs.Ytmojbamloanleaa
namespace Go.Proofs.Ytmojbamloanleaa
open Go.RowKit
namespace Ss
open Mt Codec
theorem lay_le {a : List Int} {x : En} (h : mayB x = true) : (layS a x).length ≤ 66000 := by
  unfold mayB at h
  simp only [Bool.and_eq_true, decide_eq_true_eq] at h
  have h0 := (comL_le a x.1).2
  have h1 := numN_len10 (n := comL a x.1) (by omega)
  have h2 := numN_len10 (n := x.1.length - comL a x.1) (by omega)
  have h3 := numN_len10 (n := x.2.1.toNat) (by omega)
  have h4 := numN_len10 (n := x.2.2.2.length) (by omega)
  unfold layS
  simp only [List.length_append, List.length_singleton, List.length_drop]
  omega
theorem body_one (e : En) : bodyF [e] = (layS [] e, e.1) := by
  simp [bodyF]
theorem step_le (bb : Int) (hb : bb ≤ 65536) (p : List (List En) × List En) (e : En) (he : mayB e = true) : (bodyF (stepP bb p e).2).1.length ≤ 66000 := by
  have h1 := lay_le (a := []) he
  unfold stepP
  split
  · rw [body_one]
    exact h1
  · rename_i hc
    by_cases hn : p.2 = []
    · rw [hn, List.nil_append, body_one]
      exact h1
    · have : ¬ bb < ((bodyF (p.2 ++ [e])).1.length : Int) := fun h9 => hc ⟨hn, h9⟩
      show (bodyF (p.2 ++ [e])).1.length ≤ 66000
      omega
theorem fold_le (bb : Int) (hb : bb ≤ 65536) : ∀ (l : List En) (p : List (List En) × List En), (bodyF p.2).1.length ≤ 66000 → (∀ x ∈ l, mayB x = true) → (bodyF (l.foldl (stepP bb) p).2).1.length ≤ 66000
  | [], p, h, _ => h
  | e :: l, p, h, hm => fold_le bb hb l (stepP bb p e) (step_le bb hb p e (hm e (List.mem_cons_self ..))) (fun x hx => hm x (List.mem_cons_of_mem _ hx))
theorem part_le (bb : Int) (hb : bb ≤ 65536) (l : List En) (h : ∀ x ∈ l, mayB x = true) : (bodyF (partF bb l).2).1.length ≤ 66000 := fold_le bb hb l ([], []) (by simp [bodyF]) h
theorem fold_sizes (bb : Int) : ∀ (l : List En) (p : List (List En) × List En), (l.foldl (stepP bb) p).1.length ≤ p.1.length + l.length ∧ (l.foldl (stepP bb) p).2.length ≤ p.2.length + l.length
  | [], p => by simp
  | e :: l, p => by
    have ih := fold_sizes bb l (stepP bb p e)
    have h1 : (stepP bb p e).1.length ≤ p.1.length + 1 ∧ (stepP bb p e).2.length ≤ p.2.length + 1 := by
      unfold stepP
      split <;> simp
    simp only [List.foldl_cons, List.length_cons]
    omega
theorem part_sizes (bb : Int) (l : List En) : (partF bb l).1.length ≤ l.length ∧ (partF bb l).2.length ≤ l.length := by
  have := fold_sizes bb l ([], [])
  simpa [partF] using this
def CutsP (d : List (List En)) (w : World) (e : Ending) (w' : World) : Prop := ∃ v, e = .returned v ∧ w'.ownsRow w.heap.size 3 1 v d.length (d.map fun b => Value.int .i64 b.length) ∧ Below w.heap.size w w'
theorem infoI : (Try.prog.info? 3).map (fun i => (i.zero, i.size, i.bytes)) = some (some (.int .i64 0), 1, 8) := by kernel_rfl
theorem take_snoc' {α : Type} {l : List α} {k : Nat} {x : α} (h : l[k]? = some x) : l.take (k + 1) = l.take k ++ [x] := by
  rw [List.take_add_one, h]
  rfl
set_option maxRecDepth 100000 in
set_option maxHeartbeats 8000000 in
theorem cuts_any (lv : Value) (l : List En) (bb : Int) (w : World) (hl : IsEs w lv l) (hm : ∀ x ∈ l, mayB x = true) (hb0 : 0 ≤ bb) (hb1 : bb ≤ 65536) (hll : l.length ≤ 65536) :
    Calls Try.prog 46 #[lv, .int .i64 bb] w (CutsP ((partF bb l).1 ++ [(partF bb l).2]) w) := by
  obtain ⟨i0, hi0, hz0, hz1, hz2⟩ := info_parts infoI
  have HI := Lib.hid hi0; have HZ0 := Lib.hid hz0; have HZ1 := Lib.hid hz1; have HZ2 := Lib.hid hz2
  obtain ⟨lo, lc, rfl, -, -, -⟩ := hl.form
  have HL := Lib.hid hl
  have HM := Lib.hid hm
  clear hi0 hz0 hz1 hz2 hl hm
  go_enter Try.func46, Try.ntmps46
  go_wp2_with fail
  go_loopw [5, 6, 7, 8, 9] (fun v by_ mn av i wr => ∃ k : Nat, ∃ done cur, ∃ vv aa : Value, k ≤ l.length ∧ i = .int .i64 k ∧ partF bb (l.take k) = (done, cur) ∧ v = vv ∧ Hid (wr.ownsRow w.heap.size 3 1 vv done.length (done.map fun b => Value.int .i64 b.length)) ∧ by_ = .int .i64 ((bodyF cur).1.length) ∧ mn = .int .i64 cur.length ∧ Hid (av = aa ∧ IsB wr aa (bodyF cur).2) ∧ Hid (Below w.heap.size w wr)) (fun _ _ _ _ i _ => l.length - (intOf i).toNat)
  case atStart => exact ⟨0, [], [], _, _, Nat.zero_le _, rfl, rfl, rfl, World.ownsRow_nil _ _ _ _, rfl, rfl, ⟨rfl, IsB.nil _⟩, Below.refl _ _⟩
  case round =>
    obtain ⟨k, done, cur, vv, aa, hk, rfl, hpt, rfl, ho, rfl, rfl, hav, hb⟩ := hrel
    obtain ⟨rfl, haw⟩ := hav.out
    have HPT := Lib.hid hpt
    have hble : (bodyF cur).1.length ≤ 66000 := by
      have := part_le bb hb1 (l.take k) (fun x hx => HM.out x (List.mem_of_mem_take hx))
      rwa [hpt] at this
    have hsz := part_sizes bb (l.take k)
    rw [hpt] at hsz
    have hdl : done.length ≤ 65536 := by have := hsz.1; rw [List.length_take] at this; simp only at this; omega
    have hcl : cur.length ≤ 65536 := by have := hsz.2; rw [List.length_take] at this; simp only at this; omega
    obtain ⟨vvo, vvc, rfl, -, -, -, -⟩ := own_form ho.out
    obtain ⟨ao, ac, rfl, -, -, -⟩ := haw.form
    have HAW := Lib.hid haw
    clear hpt hsz haw hav
    by_cases hkl : k < l.length
    · obtain ⟨b, o, x, kv, vw, hao, cbb, hx, d0, d1, d2, d3, hkv, hvv, hu⟩ := IsEs.at4 HL.out hkl
      subst hao
      have HMX := Lib.hid (HM.out x (List.mem_of_getElem? hx.out))
      obtain ⟨ko, kc, rfl, -, -, -⟩ := hkv.out.form
      obtain ⟨vo, vc, rfl, -, -, -⟩ := hvv.out.form
      have HKV := Lib.hid hkv.out
      have HVV := Lib.hid hvv.out
      have HLA := Lib.hid (laid_any _ _ _ (bodyF cur).2 x wr HAW.out (HKV.out.below hb.out) (HVV.out.below hb.out) HMX.out)
      have HPS : Hid (partF bb (l.take (k + 1)) = stepP bb (done, cur) x) := Lib.hid (by rw [take_snoc' hx.out, partF_snoc, HPT.out])
      have p0 : (k : Int) < l.length := by omega
      have p1 := IntWalk.i64_in ((k : Int) + 1) (by omega)
      have p2 := IntWalk.i64_in ((cur.length : Int) + 1) (by omega)
      have hxl := lay_le (a := (bodyF cur).2) HMX.out
      have hyl := lay_le (a := []) HMX.out
      have c0 : wr.cell? ⟨b, o + k * 4, none⟩ = some (.slice ko x.1.length kc) := (hb.out.cell (p := ⟨b, o + k * 4, none⟩) cbb).trans d0
      have c1 : wr.cell? ⟨b, o + k * 4 + 1, none⟩ = some (.int .u64 x.2.1) := (hb.out.cell (p := ⟨b, o + k * 4 + 1, none⟩) cbb).trans d1
      have c2 : wr.cell? ⟨b, o + k * 4 + 2, none⟩ = some (.bool x.2.2.1) := (hb.out.cell (p := ⟨b, o + k * 4 + 2, none⟩) cbb).trans d2
      have c3 : wr.cell? ⟨b, o + k * 4 + 3, none⟩ = some (.slice vo x.2.2.2.length vc) := (hb.out.cell (p := ⟨b, o + k * 4 + 3, none⟩) cbb).trans d3
      have zb : b < wr.heap.size := Nat.lt_of_lt_of_le cbb hb.out.size
      clear hkv hvv hx hkl
      go_wp2_with fail
      refine HLA.out.mono ?_
      unfold LaidP
      rintro e w2 ⟨v2, rfl, ho2, hb2⟩
      obtain ⟨v2o, v2c, rfl, -, -, -, -⟩ := ho2.form
      have G2 : Hid (Below w.heap.size w w2) := Lib.hid (bel_call hb.out hb2)
      have O2 := Lib.hid (own_below ho.out hb2)
      have A2 := Lib.hid (HAW.out.below hb2)
      have zb2 : b < w2.heap.size := Nat.lt_of_lt_of_le zb hb2.size
      clear ho2 hb2 c0 c1 c2 c3 HLA
      have c0 : w2.cell? ⟨b, o + k * 4, none⟩ = some (.slice ko x.1.length kc) := (G2.out.cell (p := ⟨b, o + k * 4, none⟩) cbb).trans d0
      have c1 : w2.cell? ⟨b, o + k * 4 + 1, none⟩ = some (.int .u64 x.2.1) := (G2.out.cell (p := ⟨b, o + k * 4 + 1, none⟩) cbb).trans d1
      have c2 : w2.cell? ⟨b, o + k * 4 + 2, none⟩ = some (.bool x.2.2.1) := (G2.out.cell (p := ⟨b, o + k * 4 + 2, none⟩) cbb).trans d2
      have c3 : w2.cell? ⟨b, o + k * 4 + 3, none⟩ = some (.slice vo x.2.2.2.length vc) := (G2.out.cell (p := ⟨b, o + k * 4 + 3, none⟩) cbb).trans d3
      have hbx : (bodyF (cur ++ [x])).1.length = (bodyF cur).1.length + (layS (bodyF cur).2 x).length := by rw [bodyF_snoc, List.length_append]
      have p3 := IntWalk.i64_in (((bodyF cur).1.length : Int) + ((layS (bodyF cur).2 x).length : Int)) (by omega)
      by_cases hc1 : 0 < cur.length
      · have r1 : (0 : Int) < cur.length := by omega
        by_cases hc2 : bb < (((bodyF cur).1.length : Int) + ((layS (bodyF cur).2 x).length : Int))
        · have HST : Hid (stepP bb (done, cur) x = (done ++ [cur], [x])) := Lib.hid (by
            unfold stepP
            rw [if_pos ⟨fun h => by simp only at h; rw [h] at hc1; simp at hc1, by simp only; omega⟩])
          have p4 := IntWalk.i64_in ((0 : Int) + ((layS [] x).length : Int)) (by omega)
          have HLB : Hid (∀ w3, Below w.heap.size w w3 → Calls Try.prog 57 #[.slice none 0 0, .agg #[.slice ko x.1.length kc, .int .u64 x.2.1, .bool x.2.2.1, .slice vo x.2.2.2.length vc]] w3 (LaidP (layS [] x) w3)) := Lib.hid (fun w3 hb3 => laid_any _ _ _ [] x w3 (IsB.nil _) (HKV.out.below hb3) (HVV.out.below hb3) HMX.out)
          clear hbx
          go_wp2_with (at_builtin; refine wpList_append_one (w := w2) (base := w.heap.size) (.tmp 33) (.tmp 35) _ rfl rfl i0 _ 8 Try.underlying39 HI.out HZ0.out HZ1.out HZ2.out rfl (.int .i64 cur.length) rfl rfl O2.out rfl (by omega) (by omega) G2.out.size ?_; intro v9 w3 ho9 hb9; have O9 : Hid (w3.ownsRow w.heap.size 3 1 v9 (done.length + 1) ((done ++ [cur]).map fun b => Value.int .i64 b.length)) := Lib.hid (by rw [List.map_append]; exact ho9); have G3 : Hid (Below w.heap.size w w3) := Lib.hid (G2.out.trans hb9); clear ho9 hb9 c0 c1 c2 c3; have c0 : w3.cell? ⟨b, o + k * 4, none⟩ = some (.slice ko x.1.length kc) := (G3.out.cell (p := ⟨b, o + k * 4, none⟩) cbb).trans d0; have c1 : w3.cell? ⟨b, o + k * 4 + 1, none⟩ = some (.int .u64 x.2.1) := (G3.out.cell (p := ⟨b, o + k * 4 + 1, none⟩) cbb).trans d1; have c2 : w3.cell? ⟨b, o + k * 4 + 2, none⟩ = some (.bool x.2.2.1) := (G3.out.cell (p := ⟨b, o + k * 4 + 2, none⟩) cbb).trans d2; have c3 : w3.cell? ⟨b, o + k * 4 + 3, none⟩ = some (.slice vo x.2.2.2.length vc) := (G3.out.cell (p := ⟨b, o + k * 4 + 3, none⟩) cbb).trans d3; have zb3 : b < w3.heap.size := Nat.lt_of_lt_of_le cbb G3.out.size; obtain ⟨v9o, v9c, rfl, -, -, -, -⟩ := own_form O9.out)
          refine (HLB.out _ G3.out).mono ?_
          unfold LaidP
          rintro e w4 ⟨v4, rfl, ho4, hb4⟩
          obtain ⟨v4o, v4c, rfl, -, -, -, -⟩ := ho4.form
          have G4 : Hid (Below w.heap.size w w4) := Lib.hid (bel_call G3.out hb4)
          have O5 := Lib.hid (own_below O9.out hb4)
          have zb4 : b < w4.heap.size := Nat.lt_of_lt_of_le cbb G4.out.size
          have G5 := G4
          have HAV : Hid (IsB w4 (.slice ko x.1.length kc) (bodyF [x]).2) := Lib.hid (by rw [body_one]; exact HKV.out.below G4.out)
          have PT : Hid (partF bb (l.take (k + 1)) = (done ++ [cur], [x])) := Lib.hid (HPS.out.trans HST.out)
          have HB1 := Lib.hid (body_one x)
          clear ho4 hb4 c0 c1 c2 c3
          have c0 : w4.cell? ⟨b, o + k * 4, none⟩ = some (.slice ko x.1.length kc) := (G4.out.cell (p := ⟨b, o + k * 4, none⟩) cbb).trans d0
          have c1 : w4.cell? ⟨b, o + k * 4 + 1, none⟩ = some (.int .u64 x.2.1) := (G4.out.cell (p := ⟨b, o + k * 4 + 1, none⟩) cbb).trans d1
          have c2 : w4.cell? ⟨b, o + k * 4 + 2, none⟩ = some (.bool x.2.2.1) := (G4.out.cell (p := ⟨b, o + k * 4 + 2, none⟩) cbb).trans d2
          have c3 : w4.cell? ⟨b, o + k * 4 + 3, none⟩ = some (.slice vo x.2.2.2.length vc) := (G4.out.cell (p := ⟨b, o + k * 4 + 3, none⟩) cbb).trans d3
          go_wp2_with fail
          refine ⟨⟨k + 1, done ++ [cur], [x], _, _, by omega, by go_num, PT.out, rfl, by rw [List.length_append]; exact O5.out, by first | (rw [HB1.out]; done) | (rw [HB1.out]; go_num), by go_num, Lib.hid ⟨rfl, HAV.out⟩, G5.out⟩, ?_⟩
          simp [intOf]
          omega
        · have HST : Hid (stepP bb (done, cur) x = (done, cur ++ [x])) := Lib.hid (by
            unfold stepP
            rw [if_neg (fun h => by have := h.2; simp only at this; omega)])
          have PT : Hid (partF bb (l.take (k + 1)) = (done, cur ++ [x])) := Lib.hid (HPS.out.trans HST.out)
          have HAV : Hid (IsB w2 (.slice ko x.1.length kc) (bodyF (cur ++ [x])).2) := Lib.hid (by rw [bodyF_snoc]; exact HKV.out.below G2.out)
          have HBX := Lib.hid hbx
          clear hbx
          go_wp2_with fail
          refine ⟨⟨k + 1, done, cur ++ [x], _, _, by omega, by go_num, PT.out, rfl, O2.out, by rw [HBX.out]; go_num, by rw [List.length_append]; go_num, Lib.hid ⟨rfl, HAV.out⟩, G2.out⟩, ?_⟩
          simp [intOf]
          omega
      · have hc3 : cur = [] := List.eq_nil_of_length_eq_zero (by omega)
        subst hc3
        have HST : Hid (stepP bb (done, []) x = (done, [x])) := Lib.hid (by
          unfold stepP
          rw [if_neg (fun h => h.1 rfl)]
          rfl)
        have PT : Hid (partF bb (l.take (k + 1)) = (done, [x])) := Lib.hid (HPS.out.trans HST.out)
        have HAV : Hid (IsB w2 (.slice ko x.1.length kc) (bodyF [x]).2) := Lib.hid (by rw [body_one]; exact HKV.out.below G2.out)
        have HBX : Hid ((bodyF [x]).1.length = (bodyF []).1.length + (layS (bodyF []).2 x).length) := Lib.hid (by simpa using hbx)
        clear hbx hc1
        go_wp2_with fail
        refine ⟨⟨k + 1, done, [x], _, _, by omega, by go_num, PT.out, rfl, O2.out, by rw [HBX.out]; go_num, by go_num, Lib.hid ⟨rfl, HAV.out⟩, G2.out⟩, ?_⟩
        simp [intOf]
        omega
    · have hke : k = l.length := by omega
      subst hke
      have HP9 : Hid (partF bb l = (done, cur)) := Lib.hid (by have := HPT.out; rwa [List.take_length] at this)
      have p0 : ¬ ((l.length : Nat) : Int) < l.length := by omega
      clear hkl
      go_wp2_with (at_builtin; refine wpList_append_one (w := wr) (base := w.heap.size) (.tmp 53) (.tmp 55) _ rfl rfl i0 _ 8 Try.underlying39 HI.out HZ0.out HZ1.out HZ2.out rfl (.int .i64 cur.length) rfl rfl ho.out rfl (by omega) (by omega) hb.out.size ?_; intro v9 w3 ho9 hb9; have O9 : Hid (w3.ownsRow w.heap.size 3 1 v9 (done.length + 1) ((done ++ [cur]).map fun b => Value.int .i64 b.length)) := Lib.hid (by rw [List.map_append]; exact ho9); have G3 : Hid (Below w.heap.size w w3) := Lib.hid (hb.out.trans hb9); clear ho9 hb9; obtain ⟨v9o, v9c, rfl, -, -, -, -⟩ := own_form O9.out)
      go_ret
      rw [HP9.out]
      refine ⟨_, rfl, ?_, G3.out⟩
      simpa using O9.out
end Ss
end Go.Proofs.Ytmojbamloanleaa
