/- codec: the plain words for numbers. No program in sight. codec: Number and TakeNumber of both. codec: TakeNumber of both. codec: the document's TakeNumber. -/
import Derived.Test.YtmojbamloanleaaKit
import Derived.Test.YtmojbamloanleaaBytesFn
set_option linter.unusedVariables false
set_option linter.unusedSimpArgs false
namespace Go.Proofs.Ytmojbamloanleaa
open Go.RowKit
namespace Codec
/-- a number's bytes -/
def numN (n : Nat) : List Int := if h : n < 128 then [(n : Int)] else (128 + (n : Int) % 128) :: numN (n / 128)
termination_by n
decreasing_by omega
theorem numN_lo {n : Nat} (h : n < 128) : numN n = [(n : Int)] := by rw [numN, dif_pos h]
theorem numN_hi {n : Nat} (h : 128 ≤ n) : numN n = (128 + (n : Int) % 128) :: numN (n / 128) := by rw [numN, dif_neg (by omega)]
theorem numN_len : ∀ (k n : Nat), n < 128 ^ (k + 1) → (numN n).length ≤ k + 1
  | 0, n, h => by rw [numN_lo (by simpa using h)]; simp
  | k + 1, n, h => by
    rcases Nat.lt_or_ge n 128 with h1 | h1
    · rw [numN_lo h1]; simp
    · rw [numN_hi h1, List.length_cons]
      have := numN_len k (n / 128) (by rw [Nat.div_lt_iff_lt_mul (by decide)]; rw [Nat.pow_succ] at h; exact h)
      omega
theorem numN_len10 {n : Nat} (h : n < 18446744073709551616) : (numN n).length ≤ 10 := by
  have e : (128 : Nat) ^ (9 + 1) = 1180591620717411303424 := by decide
  exact numN_len 9 n (by omega)
theorem numN_pos (n : Nat) : 0 < (numN n).length := by
  rcases Nat.lt_or_ge n 128 with h | h
  · rw [numN_lo h]; simp
  · rw [numN_hi h]; simp
theorem numN_rng (n : Nat) : Rng (numN n) := by
  induction n using Nat.strongRecOn with
  | ind n ih =>
    rcases Nat.lt_or_ge n 128 with h | h
    · rw [numN_lo h]; exact Rng.cons (by omega) Rng.nil
    · rw [numN_hi h]; exact Rng.cons (by omega) (ih (n / 128) (by omega))
/-- the value of a number's bytes -/
def v128 : List Int → Int
  | [] => 0
  | x :: l => x % 128 + 128 * v128 l
/-- what reading a number off the front answers: value, how many, errno -/
def takeN (l : List Int) : Int × Int × Int :=
  match (l.take 10).findIdx? (fun x => decide (x < 128)) with
  | none => if l.length < 10 then (0, 0, 10) else (0, 0, 11)
  | some e => if (0 < e ∧ l.getD e 0 = 0) ∨ (e = 9 ∧ 1 < l.getD 9 0) then (0, 0, 11) else (v128 (l.take (e + 1)), e + 1, 0)
/-- it reads what was laid, whatever stands behind -/
theorem v128_num (n : Nat) : v128 (numN n) = n := by
  induction n using Nat.strongRecOn with
  | ind n ih =>
    rcases Nat.lt_or_ge n 128 with h | h
    · rw [numN_lo h]; simp [v128]; omega
    · rw [numN_hi h]; simp only [v128]; rw [ih (n / 128) (by omega)]; omega
/-- the last byte alone is below 128; it is 0 only where it is the first -/
theorem numN_shape (n : Nat) : ∃ pre z, numN n = pre ++ [z] ∧ (∀ x ∈ pre, 128 ≤ x) ∧ 0 ≤ z ∧ z < 128 ∧ (pre ≠ [] → 0 < z) ∧ (128 : Int) ^ pre.length * z ≤ n := by
  induction n using Nat.strongRecOn with
  | ind n ih =>
    rcases Nat.lt_or_ge n 128 with h | h
    · exact ⟨[], n, by rw [numN_lo h]; rfl, fun x hx => by simp at hx, by omega, by omega, fun h => absurd rfl h, by simp⟩
    · obtain ⟨pre, z, h1, h2, h3, h4, h5, h6⟩ := ih (n / 128) (by omega)
      refine ⟨(128 + (n : Int) % 128) :: pre, z, by rw [numN_hi h, h1]; rfl, fun x hx => ?_, h3, h4, fun _ => ?_, ?_⟩
      · cases List.mem_cons.1 hx with
        | inl e => subst e; omega
        | inr e => exact h2 x e
      · cases pre with
        | nil =>
          have := v128_num (n / 128)
          rw [h1] at this
          simp [v128] at this
          omega
        | cons a b => exact h5 (by simp)
      · rw [List.length_cons, Int.pow_succ]
        have : (128 : Int) ^ pre.length * 128 * z = 128 * ((128 : Int) ^ pre.length * z) := by
          rw [Int.mul_comm ((128 : Int) ^ pre.length) 128, Int.mul_assoc]
        rw [this]
        omega
theorem takeN_num {n : Nat} (h : n < 18446744073709551616) (rest : List Int) : takeN (numN n ++ rest) = ((n : Int), ((numN n).length : Int), 0) := by
  obtain ⟨pre, z, h1, h2, h3, h4, h5, h6⟩ := numN_shape n
  have hlen := numN_len10 h
  rw [h1] at hlen
  simp at hlen
  have hv := v128_num n
  have hf : ((numN n ++ rest).take 10).findIdx? (fun x => decide (x < 128)) = some pre.length := by
    rw [h1, List.append_assoc, List.take_append, List.take_of_length_le (by omega)]
    rw [List.findIdx?_append]
    have : pre.findIdx? (fun x => decide (x < 128)) = none := by
      rw [List.findIdx?_eq_none_iff]
      intro x hx
      have := h2 x hx
      simp; omega
    rw [this]
    have e : (10 - pre.length) = (9 - pre.length) + 1 := by omega
    rw [e]
    simp [List.findIdx?_cons, h4]
  unfold takeN
  rw [hf]
  have hg : (numN n ++ rest).getD pre.length 0 = z := by
    rw [h1]; simp [List.getD]
  have ht : (numN n ++ rest).take (pre.length + 1) = numN n := by
    rw [h1, List.take_append_of_le_length (by simp), List.take_of_length_le (by simp)]
  have hc : ¬ ((0 < pre.length ∧ (numN n ++ rest).getD pre.length 0 = 0) ∨ (pre.length = 9 ∧ 1 < (numN n ++ rest).getD 9 0)) := by
    rintro (⟨a, b⟩ | ⟨a, b⟩)
    · rw [hg] at b
      have := h5 (by rintro rfl; exact absurd a (Nat.lt_irrefl 0))
      omega
    · rw [a] at hg h6
      rw [hg] at b
      have e : (128 : Int) ^ 9 = 9223372036854775808 := by decide
      rw [e] at h6
      omega
  show (if _ then _ else _) = _
  rw [if_neg hc, ht, hv, h1]
  simp
end Codec
end Go.Proofs.Ytmojbamloanleaa
namespace Go.Proofs.Ytmojbamloanleaa
open Go.RowKit
namespace Codec
theorem or128 (m : Nat) : bits .or .u8 ((m : Int) % 256) 128 = 128 + (m : Int) % 128 := by
  have h := bits_or_nat (k := .u8) rfl (m % 256) 128 (Nat.mod_lt _ (by decide)) (by decide)
  have d : ∀ x : Fin 256, (x.val ||| 128) = 128 + x.val % 128 := by decide +kernel
  have d2 := d ⟨m % 256, Nat.mod_lt _ (by decide)⟩
  simp only at d2
  rw [d2] at h
  have e : (((m % 256 : Nat) : Int)) = (m : Int) % 256 := by omega
  rw [e] at h
  rw [show (128 : Int) = ((128 : Nat) : Int) from rfl, h]
  omega
def NumPost (n : Nat) (w : World) (e : Ending) (w' : World) : Prop := ∃ v, e = .returned v ∧ OwnS w' w.heap.size 5 v (numN n) ∧ Below w.heap.size w w'
set_option maxRecDepth 100000 in
set_option maxHeartbeats 1000000 in
theorem number_any (n : Nat) (w : World) (hn : n < 18446744073709551616) :
    Calls Try.prog 65 #[.int .u64 n] w (NumPost n w) := by
  have h10 := numN_len10 hn
  have H10 := Lib.hid h10
  clear h10
  obtain ⟨i0, hi0, hz0, hz1, hz2⟩ := info_parts infoU8
  have HI := Lib.hid hi0; have HZ0 := Lib.hid hz0; have HZ1 := Lib.hid hz1; have HZ2 := Lib.hid hz2
  clear hi0 hz0 hz1 hz2
  go_enter Try.func65, Try.ntmps65
  go_wp2_with fail
  go_loopw [0, 3] (fun x out wr => ∃ (m : Nat) (pre : List Int), m < 18446744073709551616 ∧ pre.length ≤ 10 ∧ x = .int .u64 m ∧ Hid (pre ++ numN m = numN n) ∧ Hid (wr.ownsRow w.heap.size 5 1 out pre.length (pre.map (Value.int .u8))) ∧ Hid (Below w.heap.size w wr)) (fun x _ _ => (intOf x).toNat)
  case atStart => exact ⟨n, [], hn, by simp, rfl, rfl, World.ownsRow_nil _ _ _ _, Below.refl _ _⟩
  case round =>
    obtain ⟨m, pre, hm, hp, rfl, hpre, hown, hbel⟩ := hrel
    by_cases hlt : 127 < m
    · have e1 := or128 m
      have hpre' : (pre ++ [128 + (m : Int) % 128]) ++ numN (m / 128) = numN n := by
        rw [List.append_assoc, List.singleton_append, ← numN_hi (by omega)]; exact hpre.out
      have HP := Lib.hid hpre'
      have hl9 : pre.length + 1 ≤ 10 := by
        have h1 := congrArg List.length hpre'
        have h2 := numN_pos (m / 128)
        have h3 := H10.out
        simp at h1
        omega
      have E1 := Lib.hid e1
      clear hpre' e1
      go_wp2_with (at_builtin; rw [E1.out]; refine wpList_append_one (w := wr) (base := w.heap.size) (.tmp 8) (.tmp 12) _ rfl rfl i0 _ 1 Try.underlying25 HI.out HZ0.out HZ1.out HZ2.out rfl (.int .u8 (128 + (m : Int) % 128)) rfl rfl hown.out rfl (by omega) (by omega) hbel.out.size ?_; intro v' w1 hown' hb'; have HO := Lib.hid hown'; have HB := Lib.hid hb'; clear hown' hb')
      go_roundw
      case rel => exact ⟨m / 128, pre ++ [128 + (m : Int) % 128], by omega, by simp; omega, by go_num, HP.out, by rw [List.map_append, List.length_append]; exact HO.out, hbel.out.trans HB.out⟩
      case measure => simp [intOf]; omega
    · have hpn : pre ++ [(m : Int)] = numN n := by rw [← numN_lo (by omega)]; exact hpre.out
      have HP := Lib.hid hpn
      clear hpn
      go_wp2_with (at_builtin; refine wpList_append_one (w := wr) (base := w.heap.size) (.tmp 14) (.tmp 17) _ rfl rfl i0 _ 1 Try.underlying25 HI.out HZ0.out HZ1.out HZ2.out rfl (.int .u8 (m : Int)) rfl rfl hown.out rfl (by omega) (by omega) hbel.out.size ?_; intro v' w1 hown' hb'; have HO := Lib.hid hown'; have HB := Lib.hid hb'; obtain ⟨ao, cap, rfl, hnc, hcap, _, _⟩ := own_form hown'; clear hown' hb')
      refine (clip_any ao _ cap _ hnc hcap).mono ?_
      rintro e w2 ⟨rfl, rfl⟩
      go_wp2_with fail
      go_ret
      have ho : w1.ownsRow w.heap.size 5 1 (.slice ao (pre.length + 1) cap) (pre.length + 1) ((numN n).map (Value.int .u8)) := by
        rw [← HP.out, List.map_append]; exact HO.out
      exact ⟨_, rfl, (OwnS.of_own ho (numN_rng n)).clip, hbel.out.trans HB.out⟩
def RNumPost (n : Nat) (w : World) (e : Ending) (w' : World) : Prop := ∃ v, e = .returned v ∧ w'.ownsRow w.heap.size 5 1 v (numN n).length ((numN n).map (Value.int .u8)) ∧ Below w.heap.size w w'
set_option maxRecDepth 100000 in
set_option maxHeartbeats 1000000 in
theorem rNumber_any (n : Nat) (w : World) (hn : n < 18446744073709551616) :
    Calls Try.prog 56 #[.int .u64 n] w (RNumPost n w) := by
  have h10 := numN_len10 hn
  have H10 := Lib.hid h10
  clear h10
  obtain ⟨i0, hi0, hz0, hz1, hz2⟩ := info_parts infoU8
  have HI := Lib.hid hi0; have HZ0 := Lib.hid hz0; have HZ1 := Lib.hid hz1; have HZ2 := Lib.hid hz2
  clear hi0 hz0 hz1 hz2
  go_enter Try.func56, Try.ntmps56
  go_wp2_with fail
  go_loopw [0, 3] (fun x out wr => ∃ (m : Nat) (pre : List Int), m < 18446744073709551616 ∧ pre.length ≤ 10 ∧ x = .int .u64 m ∧ Hid (pre ++ numN m = numN n) ∧ Hid (wr.ownsRow w.heap.size 5 1 out pre.length (pre.map (Value.int .u8))) ∧ Hid (Below w.heap.size w wr)) (fun x _ _ => (intOf x).toNat)
  case atStart => exact ⟨n, [], hn, by simp, rfl, rfl, World.ownsRow_nil _ _ _ _, Below.refl _ _⟩
  case round =>
    obtain ⟨m, pre, hm, hp, rfl, hpre, hown, hbel⟩ := hrel
    by_cases hlt : 127 < m
    · have e1 := or128 m
      have hpre' : (pre ++ [128 + (m : Int) % 128]) ++ numN (m / 128) = numN n := by
        rw [List.append_assoc, List.singleton_append, ← numN_hi (by omega)]; exact hpre.out
      have HP := Lib.hid hpre'
      have hl9 : pre.length + 1 ≤ 10 := by
        have h1 := congrArg List.length hpre'
        have h2 := numN_pos (m / 128)
        have h3 := H10.out
        simp at h1
        omega
      have E1 := Lib.hid e1
      clear hpre' e1
      go_wp2_with (at_builtin; refine wpList_append_one (w := wr) (base := w.heap.size) (.tmp 6) (.tmp 11) _ rfl rfl i0 _ 1 Try.underlying25 HI.out HZ0.out HZ1.out HZ2.out rfl (.int .u8 (128 + (m : Int) % 128)) rfl rfl hown.out rfl (by omega) (by omega) hbel.out.size ?_; intro v' w1 hown' hb'; have HO := Lib.hid hown'; have HB := Lib.hid hb'; clear hown' hb')
      go_roundw
      case rel => exact ⟨m / 128, pre ++ [128 + (m : Int) % 128], by omega, by simp; omega, by go_num, HP.out, by rw [List.map_append, List.length_append]; exact HO.out, hbel.out.trans HB.out⟩
      case measure => simp [intOf]; omega
    · have hpn : pre ++ [(m : Int)] = numN n := by rw [← numN_lo (by omega)]; exact hpre.out
      have HP := Lib.hid hpn
      clear hpn
      go_wp2_with (at_builtin; refine wpList_append_one (w := wr) (base := w.heap.size) (.tmp 15) (.tmp 18) _ rfl rfl i0 _ 1 Try.underlying25 HI.out HZ0.out HZ1.out HZ2.out rfl (.int .u8 (m : Int)) rfl rfl hown.out rfl (by omega) (by omega) hbel.out.size ?_; intro v' w1 hown' hb'; have HO := Lib.hid hown'; have HB := Lib.hid hb'; obtain ⟨ao, cap, rfl, hnc, hcap, _, _⟩ := own_form hown'; clear hown' hb')
      go_ret
      have ho : w1.ownsRow w.heap.size 5 1 (.slice ao (pre.length + 1) cap) (numN n).length ((numN n).map (Value.int .u8)) := by
        rw [← HP.out, List.map_append, List.length_append]; exact HO.out
      exact ⟨_, rfl, ho, hbel.out.trans HB.out⟩
end Codec
end Go.Proofs.Ytmojbamloanleaa
namespace Go.Proofs.Ytmojbamloanleaa
open Go.RowKit
namespace Codec
theorem bits_u64_rng (op : BinOp) (x y : Int) : 0 ≤ bits op .u64 x y ∧ bits op .u64 x y ≤ 18446744073709551615 := by
  unfold bits
  simp [IntKind.wrap, IntKind.bits, IntKind.signed]; omega
theorem v128_rng : ∀ (l : List Int), 0 ≤ v128 l ∧ v128 l < 128 ^ l.length
  | [] => by simp [v128]
  | x :: l => by
    have ih := v128_rng l
    simp only [v128, List.length_cons, Int.pow_succ]
    generalize (128 : Int) ^ l.length = B at *
    omega
theorem v128_snoc : ∀ (l : List Int) (x : Int), v128 (l ++ [x]) = v128 l + 128 ^ l.length * (x % 128)
  | [], x => by simp [v128]
  | y :: l, x => by
    simp only [List.cons_append, v128, v128_snoc l x, List.length_cons, Int.pow_succ]
    have : (128 : Int) ^ l.length * 128 * (x % 128) = 128 * ((128 : Int) ^ l.length * (x % 128)) := by
      rw [Int.mul_comm ((128 : Int) ^ l.length) 128, Int.mul_assoc]
    omega
theorem pow128 (k : Nat) : (2 : Nat) ^ (7 * k) = 128 ^ k := by rw [Nat.pow_mul]
theorem step_or {k : Nat} {n c : Int} (hn : 0 ≤ n ∧ n < 128 ^ k) (hc : 0 ≤ c ∧ c ≤ 255) (hs : n + 128 ^ k * (c % 128) < 18446744073709551616) :
    bits .or .u64 n (IntKind.u64.wrap (IntKind.u64.wrap (bits .and .u8 c 127) * 2 ^ (7 * k))) = n + 128 ^ k * (c % 128) := by
  obtain ⟨N, rfl⟩ := Int.eq_ofNat_of_zero_le hn.1
  obtain ⟨C, rfl⟩ := Int.eq_ofNat_of_zero_le hc.1
  have e1 := bits_and_mod (k := .u8) rfl C 7 (by have : IntKind.u8.bits = 8 := rfl
                                                 rw [this]; omega) (by decide)
  have e1' : bits .and .u8 (C : Int) 127 = ((C % 128 : Nat) : Int) := e1
  have hB : IntKind.u64.bits = 64 := rfl
  have hN : N < 2 ^ (7 * k) := by rw [pow128]; exact_mod_cast hn.2
  have hs' : N + 2 ^ (7 * k) * (C % 128) < 18446744073709551616 := by
    rw [pow128]
    have : ((N + 128 ^ k * (C % 128) : Nat) : Int) < 18446744073709551616 := by push_cast; exact hs
    omega
  rw [e1', wrap_nat (k := .u64) rfl (C % 128) (by rw [hB]; omega)]
  have e2 : ((C % 128 : Nat) : Int) * 2 ^ (7 * k) = ((2 ^ (7 * k) * (C % 128) : Nat) : Int) := by push_cast; rw [Int.mul_comm]
  rw [e2, wrap_nat (k := .u64) rfl _ (by rw [hB]; omega), bits_or_add (k := .u64) rfl N (C % 128) (7 * k) hN (by rw [hB]; omega), pow128]
  push_cast
  rfl
theorem ret3 {t : Int × Int × Int} {a b c : Int} (h : t = (a, b, c)) : Ending.returned (.tuple #[.int .u64 a, .int .i64 b, .int .i64 c]) = .returned (.tuple #[.int .u64 t.1, .int .i64 t.2.1, .int .i64 t.2.2]) := by subst h; rfl
theorem find10_none {l : List Int} {k : Nat} (h : ∀ x ∈ l.take k, 128 ≤ x) (hk : k = 10 ∨ k = l.length ∧ k < 10) : (l.take 10).findIdx? (fun x => decide (x < 128)) = none := by
  rw [List.findIdx?_eq_none_iff]
  intro x hx
  have hx' : x ∈ l.take k := by
    rcases hk with rfl | ⟨rfl, h1⟩
    · exact hx
    · rw [List.take_of_length_le (by omega)] at hx ⊢; exact hx
  have := h x hx'
  simp; omega
theorem find10_some {l : List Int} {k : Nat} {c : Int} (h : ∀ x ∈ l.take k, 128 ≤ x) (hk : k < 10) (hx : l[k]? = some c) (hc : c < 128) : (l.take 10).findIdx? (fun x => decide (x < 128)) = some k := by
  have hkl := (List.getElem?_eq_some_iff.1 hx).1
  have e : l.take 10 = l.take k ++ c :: (l.drop (k + 1)).take (9 - k) := by
    have h1 : l.take 10 = l.take (k + (1 + (9 - k))) := by congr 1; omega
    rw [h1, List.take_add, List.take_add]
    congr 1
    have h2 : (l.drop k).take 1 = [c] := by
      rw [List.drop_eq_getElem_cons hkl]
      have := (List.getElem?_eq_some_iff.1 hx).2
      simp [this]
    rw [h2, List.drop_drop]
    rfl
  rw [e, List.findIdx?_append]
  have h1 : (l.take k).findIdx? (fun x => decide (x < 128)) = none := by
    rw [List.findIdx?_eq_none_iff]
    intro x hx
    have := h x hx
    simp; omega
  rw [h1]
  simp [List.findIdx?_cons, hc]
  omega
theorem take_short {l : List Int} {k : Nat} (h : ∀ x ∈ l.take k, 128 ≤ x) (hk : k < 10) (he : k = l.length) : takeN l = (0, 0, 10) := by
  unfold takeN
  rw [find10_none h (.inr ⟨he, hk⟩)]
  show (if _ then _ else _) = _
  rw [if_pos (by omega)]
theorem take_long {l : List Int} (h : ∀ x ∈ l.take 10, 128 ≤ x) (he : 10 ≤ l.length) : takeN l = (0, 0, 11) := by
  unfold takeN
  rw [find10_none h (.inl rfl)]
  show (if _ then _ else _) = _
  rw [if_neg (by omega)]
theorem take_form {l : List Int} {k : Nat} {c : Int} (h : ∀ x ∈ l.take k, 128 ≤ x) (hk : k < 10) (hx : l[k]? = some c) (hc : c < 128) (hb : 0 < k ∧ c = 0 ∨ k = 9 ∧ 1 < c) : takeN l = (0, 0, 11) := by
  unfold takeN
  rw [find10_some h hk hx hc]
  show (if _ then _ else _) = _
  have hg : l.getD k 0 = c := by simp [List.getD, hx]
  rw [if_pos]
  rcases hb with ⟨h1, h2⟩ | ⟨h1, h2⟩
  · exact .inl ⟨h1, by rw [hg]; exact h2⟩
  · exact .inr ⟨h1, by rw [← h1, hg]; exact h2⟩
theorem take_ok {l : List Int} {k : Nat} {c : Int} (h : ∀ x ∈ l.take k, 128 ≤ x) (hk : k < 10) (hx : l[k]? = some c) (hc : c < 128) (hb : ¬ (0 < k ∧ c = 0 ∨ k = 9 ∧ 1 < c)) : takeN l = (v128 (l.take (k + 1)), (k : Int) + 1, 0) := by
  unfold takeN
  rw [find10_some h hk hx hc]
  show (if _ then _ else _) = _
  have hg : l.getD k 0 = c := by simp [List.getD, hx]
  rw [if_neg]
  rintro (⟨h1, h2⟩ | ⟨h1, h2⟩)
  · rw [hg] at h2; exact hb (.inl ⟨h1, h2⟩)
  · rw [← h1, hg] at h2; exact hb (.inr ⟨h1, h2⟩)
theorem all_snoc {l : List Int} {k : Nat} {c : Int} (h : ∀ x ∈ l.take k, 128 ≤ x) (hx : l[k]? = some c) (hc : 128 ≤ c) : ∀ x ∈ l.take (k + 1), 128 ≤ x := by
  rw [take_snoc hx]
  intro x hx
  rcases List.mem_append.1 hx with h1 | h1
  · exact h x h1
  · rw [List.mem_singleton.1 h1]; exact hc
set_option maxRecDepth 100000 in
set_option maxHeartbeats 1000000 in
theorem takeNumber_any (v : Value) (l : List Int) (w : World) (h : IsB w v l) :
    Calls Try.prog 91 #[v] w fun e w' => e = .returned (.tuple #[.int .u64 (takeN l).1, .int .i64 (takeN l).2.1, .int .i64 (takeN l).2.2]) ∧ w = w' := by
  have hm := h.max
  obtain ⟨ao, cap, rfl, hnc, _, _⟩ := h.form
  have HB := Lib.hid h
  clear h
  go_enter Try.func91, Try.ntmps91
  go_wp2_with fail
  go_loop [5, 8] (fun y i => ∃ (k : Nat) (n : Int), k ≤ 10 ∧ k ≤ l.length ∧ i = .int .i64 k ∧ y = .int .u64 n ∧ Hid (0 ≤ n ∧ n ≤ 18446744073709551615) ∧ Hid (k ≤ 9 → n = v128 (l.take k)) ∧ Hid (∀ x ∈ l.take k, 128 ≤ x)) (fun _ i => 10 - (intOf i).toNat)
  case atStart => exact ⟨0, 0, by omega, by omega, rfl, rfl, by constructor <;> decide, fun _ => rfl, fun x hx => by simp at hx⟩
  case round =>
    obtain ⟨k, n, hk, hkl, rfl, rfl, hn, hv, hall⟩ := hrel
    by_cases hlt : k < 10
    · by_cases he : k = l.length
      · have hb1 : (k == l.length) = true := by rw [beq_iff_eq]; exact he
        have hb2 : ((k : Int) == (l.length : Int)) = true := by rw [beq_iff_eq]; omega
        have HT := Lib.hid (take_short hall.out hlt he)
        clear he
        go_wp2_with fail
        go_ret3
        exact ⟨ret3 HT.out, rfl⟩
      · have hb1 : (k == l.length) = false := beq_eq_false_iff_ne.2 he
        have hb2 : ((k : Int) == (l.length : Int)) = false := beq_eq_false_iff_ne.2 (by omega)
        have hkl2 : k < l.length := by omega
        obtain ⟨b, o, c, rfl, hbb, hx, hc, hc1, hc2⟩ := HB.out.at_ (k := k) (by omega)
        clear he
        have hlen : (l.take k).length = k := by rw [List.length_take]; omega
        have hor : k ≤ 9 ∧ (k ≤ 8 ∨ c ≤ 1) → bits .or .u64 n (IntKind.u64.wrap (IntKind.u64.wrap (bits .and .u8 c 127) * 2 ^ (7 * k))) = v128 (l.take (k + 1)) := by
          rintro ⟨h1, h2⟩
          have hv' := hv.out h1
          have hr := v128_rng (l.take k)
          rw [hlen] at hr
          rw [take_snoc hx.out, v128_snoc, hlen, ← hv']
          rw [← hv'] at hr
          refine step_or hr ⟨hc1, hc2⟩ ?_
          rcases h2 with h2 | h2
          · have p1 : (128 : Int) ^ (k + 1) ≤ 128 ^ 9 := by exact_mod_cast Nat.pow_le_pow_right (n := 128) (by decide) (show k + 1 ≤ 9 by omega)
            have p2 : (128 : Int) ^ 9 = 9223372036854775808 := by decide
            rw [Int.pow_succ] at p1
            have p3 : (128 : Int) ^ k * (c % 128) ≤ 128 ^ k * 127 := Int.mul_le_mul_of_nonneg_left (by omega) (by omega)
            omega
          · have p1 : (128 : Int) ^ k ≤ 128 ^ 9 := by exact_mod_cast Nat.pow_le_pow_right (n := 128) (by decide) (show k ≤ 9 by omega)
            have p2 : (128 : Int) ^ 9 = 9223372036854775808 := by decide
            have p3 : (128 : Int) ^ k * (c % 128) ≤ 128 ^ k * 1 := Int.mul_le_mul_of_nonneg_left (by omega) (by omega)
            omega
        have HOR := Lib.hid hor
        clear hor hlen
        by_cases hhi : 127 < c
        · go_wp2_with fail
          go_round
          case rel => exact ⟨k + 1, _, by omega, by omega, by go_num, rfl, bits_u64_rng _ _ _, fun h9 => HOR.out ⟨by omega, .inl (by omega)⟩, all_snoc hall.out hx.out (by omega)⟩
          case measure => simp [intOf]; omega
        · by_cases hz : 0 < k ∧ c = 0
          · obtain ⟨hz1, rfl⟩ := hz
            have HT := Lib.hid (take_form hall.out hlt hx.out (by omega) (.inl ⟨hz1, rfl⟩))
            go_wp2_with fail
            go_ret3
            exact ⟨ret3 HT.out, rfl⟩
          · have hz' : (decide (0 < (k : Int)) && (c == 0)) = false := by
              rw [Bool.and_eq_false_iff, decide_eq_false_iff_not, beq_eq_false_iff_ne]; omega
            by_cases h9 : k = 9 ∧ 1 < c
            · obtain ⟨rfl, h91⟩ := h9
              have HT := Lib.hid (take_form hall.out hlt hx.out (by omega) (.inr ⟨rfl, h91⟩))
              have hc0 : (c == 0) = false := beq_eq_false_iff_ne.2 (by omega)
              clear hz hz'
              go_wp2_with fail
              go_ret3
              exact ⟨ret3 HT.out, rfl⟩
            · have HT := Lib.hid (take_ok hall.out hlt hx.out (by omega) (by omega))
              have HOR2 := Lib.hid (HOR.out ⟨by omega, by omega⟩)
              have q1 : decide (127 < c) = false := by simp; omega
              by_cases k0 : k = 0
              · subst k0
                clear hz hz' h9 hhi
                simp only [Nat.add_zero] at hc
                have h20 := HOR2.out
                rw [show (2 : Int) ^ (7 * 0) = 1 from rfl, Int.mul_one] at h20
                have H20 := Lib.hid h20
                clear h20
                go_wp2_with fail
                go_ret3
                exact ⟨(congrArg (fun z => Ending.returned (.tuple #[.int .u64 z, .int .i64 1, .int .i64 0])) H20.out).trans (ret3 HT.out), rfl⟩
              · have hc0 : (c == 0) = false := beq_eq_false_iff_ne.2 (by omega)
                by_cases k9 : k = 9
                · subst k9
                  have q2 : decide (1 < c) = false := by simp; omega
                  clear hz hz' h9 hhi
                  have h20 := HOR2.out
                  rw [show (2 : Int) ^ (7 * 9) = 9223372036854775808 from by decide] at h20
                  have H20 := Lib.hid h20
                  clear h20
                  go_wp2_with fail
                  go_ret3
                  exact ⟨(congrArg (fun z => Ending.returned (.tuple #[.int .u64 z, .int .i64 10, .int .i64 0])) H20.out).trans (ret3 HT.out), rfl⟩
                · have q2 : ((k : Int) == 9) = false := beq_eq_false_iff_ne.2 (by omega)
                  have q3 : (k == 9) = false := beq_eq_false_iff_ne.2 k9
                  clear hz hz' h9 hhi
                  go_wp2_with fail
                  go_ret3
                  exact ⟨by rw [HOR2.out]; exact ret3 HT.out, rfl⟩
    · have hk10 : k = 10 := by omega
      subst hk10
      have HT := Lib.hid (take_long hall.out hkl)
      go_wp2_with fail
      go_ret3
      exact ⟨ret3 HT.out, rfl⟩
end Codec
end Go.Proofs.Ytmojbamloanleaa
namespace Go.Proofs.Ytmojbamloanleaa
open Go.RowKit
namespace Codec
theorem v128_split : ∀ (j : Nat) (L : List Int), j ≤ L.length → v128 L = v128 (L.take j) + 128 ^ j * v128 (L.drop j)
  | 0, L, _ => by simp [v128]
  | j + 1, [], h => by simp at h
  | j + 1, x :: L, h => by
    have ih := v128_split j L (by simpa using h)
    simp only [List.take_succ_cons, List.drop_succ_cons, v128, Int.pow_succ]
    rw [ih]
    have : (128 : Int) ^ j * 128 * v128 (L.drop j) = 128 * ((128 : Int) ^ j * v128 (L.drop j)) := by rw [Int.mul_comm ((128 : Int) ^ j) 128, Int.mul_assoc]
    omega
theorem v128_drop_le (j : Nat) (L : List Int) (h : j ≤ L.length) : v128 (L.drop j) ≤ v128 L := by
  have e := v128_split j L h
  have r1 := v128_rng (L.take j)
  have r2 := v128_rng (L.drop j)
  have p : (1 : Int) ≤ 128 ^ j := by exact_mod_cast Nat.one_le_pow j 128 (by decide)
  have : 1 * v128 (L.drop j) ≤ 128 ^ j * v128 (L.drop j) := Int.mul_le_mul_of_nonneg_right p r2.1
  omega
theorem v128_max {l : List Int} {e : Nat} {c : Int} (he : e < 10) (hx : l[e]? = some c) (hc0 : 0 ≤ c) (hc : c < 128) (h9 : e = 9 → c ≤ 1) : v128 (l.take (e + 1)) ≤ 18446744073709551615 := by
  have hlen : (l.take e).length = e := by
    have := (List.getElem?_eq_some_iff.1 hx).1
    rw [List.length_take]; omega
  rw [take_snoc hx, v128_snoc, hlen]
  have r := v128_rng (l.take e)
  rw [hlen] at r
  have p2 : (128 : Int) ^ 9 = 9223372036854775808 := by decide
  by_cases h : e = 9
  · have := h9 h
    subst h
    rw [p2] at r ⊢
    omega
  · have p1 : (128 : Int) ^ (e + 1) ≤ 128 ^ 9 := by exact_mod_cast Nat.pow_le_pow_right (n := 128) (by decide) (show e + 1 ≤ 9 by omega)
    rw [Int.pow_succ] at p1
    have p3 : (128 : Int) ^ e * (c % 128) ≤ 128 ^ e * 127 := Int.mul_le_mul_of_nonneg_left (by omega) (by omega)
    omega
theorem v128_at {L : List Int} {j : Nat} {c : Int} (h : L[j]? = some c) : v128 (L.drop j) = c % 128 + 128 * v128 (L.drop (j + 1)) := by
  obtain ⟨h1, h2⟩ := List.getElem?_eq_some_iff.1 h
  rw [List.drop_eq_getElem_cons h1, h2]
  rfl
def RTPost (l : List Int) (w : World) (e : Ending) (w' : World) : Prop := e = .returned (.tuple #[.int .u64 (takeN l).1, .int .i64 (takeN l).2.1, .int .i64 (takeN l).2.2]) ∧ w = w'
set_option maxRecDepth 100000 in
set_option maxHeartbeats 2000000 in
theorem rTakeNumber_any (v : Value) (l : List Int) (w : World) (h : IsB w v l) :
    Calls Try.prog 92 #[v] w (RTPost l w) := by
  have hm := h.max
  obtain ⟨ao, cap, rfl, hnc, _, _⟩ := h.form
  have HB := Lib.hid h
  clear h
  go_enter Try.func92, Try.ntmps92
  go_wp2_with fail
  go_loop [5, 6] (fun y i => (∃ k : Nat, k ≤ 10 ∧ k ≤ l.length ∧ i = .int .i64 k ∧ y = .int .i64 (-1) ∧ Hid (∀ x ∈ l.take k, 128 ≤ x)) ∨ (∃ (e : Nat) (c : Int), e < 10 ∧ e < l.length ∧ i = .int .i64 ((e : Int) + 1) ∧ y = .int .i64 e ∧ c < 128 ∧ Hid (l[e]? = some c) ∧ Hid (∀ x ∈ l.take e, 128 ≤ x))) (fun _ i => 10 - (intOf i).toNat)
  case atStart => exact .inl ⟨0, by omega, by omega, rfl, rfl, fun x hx => by simp at hx⟩
  case round =>
    rcases hrel with ⟨k, hk, hkl, rfl, rfl, hall⟩ | ⟨e, c, he, hel, rfl, rfl, hc, hx, hall⟩
    · by_cases h1 : k < l.length ∧ k < 10
      · obtain ⟨h1, h2⟩ := h1
        obtain ⟨b, o, c, rfl, hbb, hx, hc, hc1, hc2⟩ := HB.out.at_ (k := k) h1
        by_cases hhi : c < 128
        · go_wp2_with fail
          go_round
          case rel => exact .inr ⟨k, c, h2, h1, rfl, rfl, hhi, hx, hall⟩
          case measure => simp [intOf]; omega
        · go_wp2_with fail
          go_round
          case rel => exact .inl ⟨k + 1, by omega, by omega, by go_num, rfl, all_snoc hall.out hx.out (by omega)⟩
          case measure => simp [intOf]; omega
      · by_cases h10 : k < 10
        · have hkl2 : k = l.length := by omega
          have HT := Lib.hid (take_short hall.out h10 hkl2)
          have q1 : decide (k < l.length) = false := by simp; omega
          have q2 : decide (l.length < 10) = true := by simp; omega
          have q3 : decide ((l.length : Int) < 10) = true := by simp; omega
          clear h1 hkl2
          go_wp2_with fail
          all_goals
            go_ret3
            exact ⟨ret3 HT.out, rfl⟩
        · have hk10 : k = 10 := by omega
          subst hk10
          have HT := Lib.hid (take_long hall.out hkl)
          have q3 : decide ((l.length : Int) < 10) = false := by simp; omega
          clear h1 h10
          go_wp2_with fail
          all_goals
            go_ret3
            exact ⟨ret3 HT.out, rfl⟩
    · obtain ⟨b, o, c', rfl, hbb, hx', hcc, hc1, hc2⟩ := HB.out.at_ (k := e) hel
      have ec : c' = c := by have := hx.out; rw [hx'.out] at this; cases this; rfl
      subst ec
      by_cases hz : 0 < e ∧ c' = 0
      · obtain ⟨hz1, rfl⟩ := hz
        have HT := Lib.hid (take_form hall.out he hx.out (by omega) (.inl ⟨hz1, rfl⟩))
        go_wp2_with fail
        all_goals
          go_ret3
          exact ⟨ret3 HT.out, rfl⟩
      · by_cases h9 : e = 9 ∧ 1 < c'
        · obtain ⟨rfl, h91⟩ := h9
          have HT := Lib.hid (take_form hall.out he hx.out (by omega) (.inr ⟨rfl, h91⟩))
          have hc0 : (c' == 0) = false := beq_eq_false_iff_ne.2 (by omega)
          clear hz
          go_wp2_with fail
          all_goals
            go_ret3
            exact ⟨ret3 HT.out, rfl⟩
        · have HT := Lib.hid (take_ok hall.out he hx.out (by omega) (by omega))
          have hmax := v128_max he hx.out hc1 hc (by omega)
          have HM := Lib.hid hmax
          have hlen : (l.take (e + 1)).length = e + 1 := by rw [List.length_take]; omega
          have HLEN := Lib.hid hlen
          have q : e = 0 ∨ (0 < e ∧ e ≤ 8 ∧ (c' == 0) = false) ∨ (e = 9 ∧ c' ≤ 1 ∧ (c' == 0) = false) := by
            rcases Nat.eq_zero_or_pos e with h | h
            · exact .inl h
            · have hc0 : (c' == 0) = false := beq_eq_false_iff_ne.2 (by omega)
              rcases Nat.lt_or_ge e 9 with h8 | h8
              · exact .inr (.inl ⟨h, by omega, hc0⟩)
              · exact .inr (.inr ⟨by omega, by omega, hc0⟩)
          clear hmax hz h9 hlen
          obtain ⟨E, hE⟩ : ∃ E : Nat, E = e := ⟨_, rfl⟩
          have HE := Lib.hid hE
          rw [← hE] at HT HM HLEN
          have hE9 : E ≤ 9 := by omega
          have hEl : E < l.length := by omega
          clear hE
          rcases Nat.lt_or_ge (e + 1) l.length with s1 | s1 <;> rcases q with rfl | ⟨e1, e2, q0⟩ | ⟨rfl, q9, q0⟩
          all_goals (try simp only [Nat.add_zero] at hcc)
          all_goals
            go_wp2_with fail
            go_loop [7, 8] (fun n i => (∃ (j : Nat) (m : Int), j ≤ E ∧ i = .int .i64 j ∧ n = .int .u64 m ∧ Hid (m = v128 ((l.take (E + 1)).drop (j + 1)))) ∨ (i = .int .i64 (-1) ∧ ∃ m : Int, n = .int .u64 m ∧ Hid (m = v128 (l.take (E + 1))))) (fun _ i => (intOf i + 1).toNat)
            case atStart =>
              refine .inl ⟨E, 0, Nat.le_refl _, by have := HE.out; subst this; rfl, rfl, Lib.hid ?_⟩
              rw [List.drop_of_length_le (by rw [HLEN.out]; omega)]
              rfl
            case round =>
              rcases hrel with ⟨j, m, hj, rfl, rfl, hm⟩ | ⟨rfl, m, rfl, hm⟩
              · obtain ⟨_, _, cj, hb1, _, hxj, hcj, b1, b2⟩ := HB.out.at_ (k := j) (by omega)
                cases hb1
                have hv := v128_at (L := l.take (E + 1)) (j := j) (c := cj) (by rw [List.getElem?_take_of_lt (by omega)]; exact hxj.out)
                have hle := v128_drop_le j (l.take (E + 1)) (by rw [HLEN.out]; omega)
                have hr := v128_rng ((l.take (E + 1)).drop (j + 1))
                have hM := HM.out
                rw [← hm.out] at hv hr
                have m0 : 0 ≤ m := hr.1
                have m1 : cj % 128 + 128 * m ≤ 18446744073709551615 := by omega
                have HV := Lib.hid hv
                clear hv hle hr hM
                go_wp2_with fail
                go_round
                case rel =>
                  rcases Nat.eq_zero_or_pos j with rfl | hp
                  · exact .inr ⟨rfl, _, rfl, Lib.hid (by have := HV.out; rw [List.drop_zero] at this; omega)⟩
                  · exact .inl ⟨j - 1, _, by omega, by congr 1; omega, rfl, Lib.hid (by have := HV.out; rw [show j - 1 + 1 = j from by omega]; omega)⟩
                case measure => simp [intOf] <;> omega
              · go_wp2_with fail
                go_ret3
                refine ⟨ret3 (HT.out.trans ?_), rfl⟩
                rw [← hm.out]
                have := HE.out
                subst this
                rfl
end Codec
end Go.Proofs.Ytmojbamloanleaa
