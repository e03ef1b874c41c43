/- package bloom: the probes. -/
import Derived.Test.YtmojbamloanleaaBloom
set_option linter.unusedVariables false
set_option linter.unusedSimpArgs false
namespace Go.Proofs.Ytmojbamloanleaa
open Go.RowKit
namespace Bloom
/-- the second hash of a key: its step -/
def rotF (h : Int) : Int := bits .or .u64 (IntKind.u64.wrap (h * 2147483648)) (h / 8589934592)
def stepF (h : Int) : Int := bits .or .u64 (rotF h) 1
/-- the i-th hash -/
def hi (h s : Int) : Nat → Int
  | 0 => h
  | i + 1 => IntKind.u64.wrap (hi h s i + s)
theorem u64_wrap_rng (x : Int) : 0 ≤ IntKind.u64.wrap x ∧ IntKind.u64.wrap x ≤ 18446744073709551615 := by
  simp [IntKind.wrap, IntKind.bits, IntKind.signed]; omega
theorem hashF_rng (l : List Int) : 0 ≤ hashF l ∧ hashF l ≤ 18446744073709551615 := by
  unfold hashF
  rcases List.eq_nil_or_concat l with rfl | ⟨m, x, rfl⟩
  · simp
  · rw [List.concat_eq_append, List.foldl_append]; exact u64_wrap_rng _
theorem hi_rng {h s : Int} (hh : 0 ≤ h ∧ h ≤ 18446744073709551615) (i : Nat) : 0 ≤ hi h s i ∧ hi h s i ≤ 18446744073709551615 := by
  cases i with
  | zero => exact hh
  | succ i => exact u64_wrap_rng _

set_option maxHeartbeats 400000 in
theorem rot_any (h : Int) (w : World) (hh : 0 ≤ h ∧ h ≤ 18446744073709551615) :
    Calls Try.prog 99 #[.int .u64 h, .int .i64 31] w fun e w' => e = .returned (.int .u64 (rotF h)) ∧ w = w' := by
  have e1 : bits BinOp.and IntKind.u64 31 63 = 31 := by decide
  go_enter Try.func99, Try.ntmps99
  go_wp2_with fail
  go_ret
  exact ⟨rfl, rfl⟩

/-- t holds of all numbers below n -/
def allB (t : Nat → Bool) : Nat → Bool
  | 0 => true
  | k + 1 => allB t k && t k
theorem allB_false {t : Nat → Bool} {k : Nat} (hk : t k = false) : ∀ n, k < n → allB t n = false
  | 0, h => absurd h (by omega)
  | n + 1, h => by
    rcases Nat.lt_or_ge k n with h1 | h1
    · simp [allB, allB_false hk n h1]
    · have : k = n := by omega
      subst this; simp [allB, hk]
/-- the bit of a number -/
def bitF (n : Int) : Int := 2 ^ (n % 8).toNat % 256
/-- the place of a number in a filter -/
def atF (n : Int) : Nat := 1 + (n / 8).toNat
/-- is a number's bit set? -/
def isSet (f : List Int) (n : Int) : Bool := bits .and .u8 (f.getD (atF n) 0) (bitF n) != 0
/-- the i-th number of a key -/
def num (l : List Int) (m : Int) (i : Nat) : Int := hi (hashF l) (stepF (hashF l)) i % m
theorem num_rng (l : List Int) {m : Int} (hm : 0 < m) (i : Nat) : 0 ≤ num l m i ∧ num l m i < m := ⟨Int.emod_nonneg _ (by omega), Int.emod_lt_of_pos _ hm⟩

set_option maxHeartbeats 400000 in
theorem mayClo (fv : Value) (f : List Int) (g : Nat) (q c : Int) (w : World) (h : IsB w fv f) (hg : w.cell? ⟨g, 0, none⟩ = some fv) (hq : 0 ≤ q ∧ q + 1 < f.length) :
    Calls Try.prog 81 #[.int .i64 q, .int .u8 c, .pointer (some ⟨g, 0, none⟩)] w fun e w' => e = .returned (.bool (bits .and .u8 (f.getD (1 + q.toNat) 0) c != 0)) ∧ w = w' := by
  obtain ⟨k, rfl⟩ := Int.eq_ofNat_of_zero_le hq.1
  have hk : 1 + k < f.length := by omega
  have hn := h.max
  obtain ⟨ao, cap, rfl, _, _, _⟩ := h.form
  obtain ⟨b, o, x, rfl, hb, hx, hcell, _, _⟩ := h.at_ hk
  have e : f.getD (1 + (k : Int).toNat) 0 = x := by simp [List.getD, hx.out]
  rw [e]
  clear e hx h
  go_enter Try.func81, Try.ntmps81
  go_wp2_with fail
  go_ret
  exact ⟨rfl, rfl⟩

set_option maxHeartbeats 400000 in
theorem each_may (v fv : Value) (l f : List Int) (g : Nat) (p : Nat) (w : World) (h : IsB w v l) (hf : IsB w fv f) (hg : w.cell? ⟨g, 0, none⟩ = some fv) (hp : p ≤ 255) (h9 : 9 ≤ f.length) (hfl : f.length ≤ 140737488355328) :
    Calls Try.prog 80 #[v, .int .i64 p, .int .u64 (((f.length : Int) - 1) * 8), .func (.func 81) #[] #[.pointer (some ⟨g, 0, none⟩)]] w
      fun e w' => e = .returned (.bool (allB (fun i => isSet f (num l (((f.length : Int) - 1) * 8) i)) p)) ∧ w = w' := by
  generalize hM : ((f.length : Int) - 1) * 8 = m
  have hm : 64 ≤ m ∧ m ≤ 1125899906842624 := by omega
  have hmf : m = ((f.length : Int) - 1) * 8 := hM.symm
  have HM := Lib.hid hmf
  clear hM hmf
  have HB := Lib.hid h
  have HF := Lib.hid hf
  have hh := hashF_rng l
  clear h hf
  go_enter Try.func80, Try.ntmps80
  go_wp2_with fail
  refine (hash_any v l _ HB.out).mono ?_
  rintro e w1 ⟨rfl, rfl⟩
  go_wp2_with fail
  refine (rot_any _ _ hh).mono ?_
  rintro e w1 ⟨rfl, rfl⟩
  go_wp2_with fail
  go_loop [9, 18] (fun x i => ∃ k : Nat, k ≤ p ∧ i = .int .i64 k ∧ x = .int .u64 (hi (hashF l) (stepF (hashF l)) k) ∧ Hid (allB (fun i => isSet f (num l m i)) k = true)) (fun _ i => p - (intOf i).toNat)
  case atStart => exact ⟨0, Nat.zero_le _, rfl, rfl, rfl⟩
  case round =>
    obtain ⟨k, hk, rfl, rfl, hall⟩ := hrel
    by_cases hlt : k < p
    · have hi1 := hi_rng (s := stepF (hashF l)) hh k
      have hq0 : 0 ≤ hi (hashF l) (stepF (hashF l)) k % m := Int.emod_nonneg _ (by omega)
      have hq1 : hi (hashF l) (stepF (hashF l)) k % m < m := Int.emod_lt_of_pos _ (by omega)
      go_wp2_with fail
      refine (mayClo fv f g _ _ w HF.out hg ?_).mono ?_
      · have := HM.out; omega
      rintro e w1 ⟨rfl, rfl⟩
      cases ht : isSet f (num l m k)
      · have ht2 : (bits .and .u8 (f.getD (1 + (hi (hashF l) (stepF (hashF l)) k % m / 8).toNat) 0) (2 ^ (hi (hashF l) (stepF (hashF l)) k % m % 8).toNat % 256) != 0) = false := ht
        have HT := Lib.hid (allB_false (t := fun i => isSet f (num l m i)) ht p hlt)
        rw [ht2]
        clear ht ht2
        go_wp2_with fail
        go_ret
        exact ⟨by rw [HT.out]; rfl, rfl⟩
      · have ht2 : (bits .and .u8 (f.getD (1 + (hi (hashF l) (stepF (hashF l)) k % m / 8).toNat) 0) (2 ^ (hi (hashF l) (stepF (hashF l)) k % m % 8).toNat % 256) != 0) = true := ht
        have HT := Lib.hid ht
        rw [ht2]
        clear ht ht2
        go_wp2_with fail
        go_round
        case rel => exact ⟨k + 1, by omega, by go_num, rfl, by unfold Hid; simp only [allB]; rw [hall.out, HT.out]; rfl⟩
        case measure => simp [intOf]; omega
    · have hkp : k = p := by omega
      subst hkp
      go_wp2_with fail
      go_ret
      exact ⟨by rw [hall.out]; rfl, rfl⟩

/-- what May answers -/
def mayF (f l : List Int) : Bool :=
  if f.length < 9 ∨ (f.length - 1) % 8 ≠ 0 ∨ f.getD 0 0 = 0 ∨ 30 < f.getD 0 0 then true
  else allB (fun i => isSet f (num l (((f.length : Int) - 1) * 8) i)) (f.getD 0 0).toNat

set_option maxHeartbeats 400000 in
theorem may_any (fv kv : Value) (f l : List Int) (w : World) (hf : IsB w fv f) (hk : IsB w kv l) (hfl : f.length ≤ 140737488355328) :
    Calls Try.prog 49 #[fv, kv] w (Ret (.bool (mayF f l)) w) := by
  have HF := Lib.hid hf
  have HK := Lib.hid hk
  obtain ⟨ao, cap, rfl, _, _, _⟩ := hf.form
  by_cases h9 : f.length < 9
  · have e : mayF f l = true := by unfold mayF; rw [if_pos (.inl h9)]
    rw [e]; clear e
    clear hf hk
    have h0 : decide ((f.length : Int) - 1 < 8) = true := by simp; omega
    go_enter Try.func49, Try.ntmps49
    go_wp2_with fail
    go_ret
    exact ⟨rfl, (by repeat' (first | (with_reducible exact Below.refl _ _) | (with_reducible assumption) | (with_reducible refine Below.drew ?_) | (with_reducible refine below_drewN ?_ _) | (with_reducible refine bel_alloc ?_ _) | (with_reducible refine Below.setCell ?_ ?_ _) | (with_reducible refine bel_call ?_ (by assumption)) | (simp <;> omega)))⟩
  · obtain ⟨b, o, x, rfl, hb, hx, hc, hlo, hhi⟩ := hf.at_ (k := 0) (by omega)
    rw [Nat.add_zero] at hc
    have h0 : decide ((f.length : Int) - 1 < 8) = false := by simp; omega
    have ex : f.getD 0 0 = x := by simp [List.getD, hx.out]
    by_cases h8 : (f.length - 1) % 8 = 0
    · have h1 : ((((f.length : Int) - 1) % 8) != 0) = false := by simp; omega
      by_cases hx0 : x = 0
      · have e : mayF f l = true := by unfold mayF; rw [if_pos (.inr (.inr (.inl (by rw [ex]; exact hx0))))]
        rw [e]; clear e ex
        subst hx0
        clear hf hk
        go_enter Try.func49, Try.ntmps49
        go_wp2_with fail
        go_ret
        exact ⟨rfl, (by repeat' (first | (with_reducible exact Below.refl _ _) | (with_reducible assumption) | (with_reducible refine Below.drew ?_) | (with_reducible refine below_drewN ?_ _) | (with_reducible refine bel_alloc ?_ _) | (with_reducible refine Below.setCell ?_ ?_ _) | (with_reducible refine bel_call ?_ (by assumption)) | (simp <;> omega)))⟩
      · have h2 : (x == 0) = false := by simpa using hx0
        by_cases hx30 : 30 < x
        · have e : mayF f l = true := by unfold mayF; rw [if_pos (.inr (.inr (.inr (by rw [ex]; exact hx30))))]
          rw [e]; clear e ex
          clear hf hk
          have h3 : decide (30 < x) = true := by simpa using hx30
          go_enter Try.func49, Try.ntmps49
          go_wp2_with fail
          go_ret
          exact ⟨rfl, (by repeat' (first | (with_reducible exact Below.refl _ _) | (with_reducible assumption) | (with_reducible refine Below.drew ?_) | (with_reducible refine below_drewN ?_ _) | (with_reducible refine bel_alloc ?_ _) | (with_reducible refine Below.setCell ?_ ?_ _) | (with_reducible refine bel_call ?_ (by assumption)) | (simp <;> omega)))⟩
        · have e : mayF f l = allB (fun i => isSet f (num l (((f.length : Int) - 1) * 8) i)) x.toNat := by
            unfold mayF; rw [if_neg (by rw [ex]; omega), ex]
          rw [e]; clear e ex
          clear hf hk
          have h3 : decide (30 < x) = false := by simp; omega
          obtain ⟨p, rfl⟩ := Int.eq_ofNat_of_zero_le hlo
          go_enter Try.func49, Try.ntmps49
          go_wp2_with fail
          refine (each_may kv _ l f w.heap.size p _ (HK.out.alloc _) (HF.out.alloc _) ?_ (by omega) (by omega) hfl).mono ?_
          · go_simp
          rintro e w1 ⟨rfl, rfl⟩
          go_wp2_with fail
          go_ret
          exact ⟨rfl, (by repeat' (first | (with_reducible exact Below.refl _ _) | (with_reducible assumption) | (with_reducible refine Below.drew ?_) | (with_reducible refine below_drewN ?_ _) | (with_reducible refine bel_alloc ?_ _) | (with_reducible refine Below.setCell ?_ ?_ _) | (with_reducible refine bel_call ?_ (by assumption)) | (simp <;> omega)))⟩
    · have e : mayF f l = true := by unfold mayF; rw [if_pos (.inr (.inl h8))]
      rw [e]; clear e ex
      clear hf hk
      have h1 : ((((f.length : Int) - 1) % 8) != 0) = true := by rw [bne_iff_ne]; omega
      go_enter Try.func49, Try.ntmps49
      go_wp2_with fail
      go_ret
      exact ⟨rfl, (by repeat' (first | (with_reducible exact Below.refl _ _) | (with_reducible assumption) | (with_reducible refine Below.drew ?_) | (with_reducible refine below_drewN ?_ _) | (with_reducible refine bel_alloc ?_ _) | (with_reducible refine Below.setCell ?_ ?_ _) | (with_reducible refine bel_call ?_ (by assumption)) | (simp <;> omega)))⟩
end Bloom
end Go.Proofs.Ytmojbamloanleaa
