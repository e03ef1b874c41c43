/- the document's answer for blooms: the numbers of a key, May. -/
import Derived.Test.YtmojbamloanleaaBloom2
import Derived.Test.YtmojbamloanleaaKit
import Derived.Deep.Cut
set_option linter.unusedVariables false
set_option linter.unusedSimpArgs false
namespace Go.Proofs.Ytmojbamloanleaa
open Go.RowKit
namespace Bloom
theorem u64_or_add (a b : Nat) (ha : a * 2147483648 + b < 18446744073709551616) (hb : b < 2147483648) : bits .or .u64 ((a : Int) * 2147483648) (b : Int) = (a : Int) * 2147483648 + b := by
  have hA : a * 2147483648 < 18446744073709551616 := Nat.lt_of_le_of_lt (Nat.le_add_right _ _) ha
  have hB : b < 18446744073709551616 := Nat.lt_of_lt_of_le hb (by decide)
  have h1 : ((a : Int) * 2147483648) = ((a * 2147483648 : Nat) : Int) := by simp
  rw [h1, u64_or_nat (a * 2147483648) b hA hB]
  clear hA hB
  have h2 : a * 2147483648 ||| b = a * 2147483648 + b := by
    have := Nat.two_pow_add_eq_or_of_lt (i := 31) (b := b) (by omega) a
    rw [Nat.mul_comm]; exact this.symm
  rw [h2]; omega
theorem rotF_eq (h : Int) (hh : 0 ≤ h ∧ h ≤ 18446744073709551615) : rotF h = h % 8589934592 * 2147483648 + h / 8589934592 := by
  obtain ⟨n, rfl⟩ := Int.eq_ofNat_of_zero_le hh.1
  have e1 : IntKind.u64.wrap ((n : Int) * 2147483648) = ((n % 8589934592 : Nat) : Int) * 2147483648 := by rw [IntKind.wrap_u64]; omega
  have e2 : (n : Int) / 8589934592 = ((n / 8589934592 : Nat) : Int) := by omega
  have e3 : (n : Int) % 8589934592 = ((n % 8589934592 : Nat) : Int) := by omega
  unfold rotF
  rw [e1, e2, u64_or_add _ _ (by omega) (by omega), e3]
theorem or_one (x : Int) (hx : 0 ≤ x ∧ x ≤ 18446744073709551615) : bits .or .u64 x 1 = if x % 2 = 0 then x + 1 else x := by
  obtain ⟨n, rfl⟩ := Int.eq_ofNat_of_zero_le hx.1
  have h1 : bits .or .u64 (n : Int) 1 = ((n ||| 1 : Nat) : Int) := u64_or_nat n 1 (by omega) (by omega)
  rw [h1]
  have h2 : n ||| 1 = if n % 2 = 0 then n + 1 else n := by
    have h3 : n = n / 2 * 2 + n % 2 := by omega
    have h4 : ∀ c, c < 2 → n / 2 * 2 ||| c = n / 2 * 2 + c := fun c hc => by
      have := Nat.two_pow_add_eq_or_of_lt (i := 1) (b := c) (by omega) (n / 2)
      rw [Nat.mul_comm]; simpa using this.symm
    split
    · rename_i h
      have : n = n / 2 * 2 := by omega
      conv => lhs; rw [this, h4 1 (by omega)]
      omega
    · rename_i h
      have e : n = n / 2 * 2 ||| 1 := by rw [h4 1 (by omega)]; omega
      conv => lhs; rw [e]
      rw [Nat.or_assoc, Nat.or_self, ← e]
  rw [h2]
  split <;> split <;> omega
theorem stepF_eq (h : Int) (hh : 0 ≤ h ∧ h ≤ 18446744073709551615) :
    stepF h = if (h % 8589934592 * 2147483648 + h / 8589934592) % 2 = 0 then h % 8589934592 * 2147483648 + h / 8589934592 + 1 else h % 8589934592 * 2147483648 + h / 8589934592 := by
  unfold stepF
  rw [rotF_eq h hh, or_one _ (by omega)]

theorem info64 : (Try.prog.info? 44).map (fun i => (i.zero, i.size, i.bytes)) = some (some (.int .u64 0), 1, 8) := by kernel_rfl
/-- the numbers of a key -/
def nums (l : List Int) (m : Int) (p : Nat) : List Int := (List.range p).map fun i => num l m i
theorem nums_succ (l : List Int) (m : Int) (p : Nat) : nums l m (p + 1) = nums l m p ++ [num l m p] := by simp [nums, List.range_succ]
/-- what 'bits' leaves -/
def BitsPost (l : List Int) (m : Int) (p : Nat) (w : World) (e : Ending) (w' : World) : Prop :=
  ∃ v, e = .returned v ∧ w'.ownsRow w.heap.size 44 1 v p ((nums l m p).map (Value.int .u64)) ∧ Below w.heap.size w w'

set_option maxHeartbeats 800000 in
theorem rBits_any (v : Value) (l : List Int) (p : Nat) (m : Int) (w : World) (h : IsB w v l) (hp : p ≤ 255) (hm : 64 ≤ m ∧ m ≤ 1125899906842624) :
    Calls Try.prog 77 #[v, .int .i64 p, .int .u64 m] w (BitsPost l m p w) := by
  have HB := Lib.hid h
  have hh := hashF_rng l
  have HS := Lib.hid (stepF_eq (hashF l) hh)
  clear h
  obtain ⟨i0, hi0, hz0, hz1, hz2⟩ := info_parts info64
  have HI := Lib.hid hi0; have HZ0 := Lib.hid hz0; have HZ1 := Lib.hid hz1; have HZ2 := Lib.hid hz2
  clear hi0 hz0 hz1 hz2
  by_cases hpar : (hashF l % 8589934592 * 2147483648 + hashF l / 8589934592) % 2 = 0
  · obtain ⟨R, hR⟩ : ∃ R, hashF l % 8589934592 * 2147483648 + hashF l / 8589934592 = R := ⟨_, rfl⟩
    have hS := HS.out
    rw [hR] at hS hpar
    rw [if_pos hpar] at hS
    have HS1 := Lib.hid hS
    have hb1 : (R % 2 == 0) = true := by simp; exact hpar
    have hb2 : 0 ≤ R := by omega
    have hb3 : R + 1 ≤ 18446744073709551615 := by omega
    clear hS HS hpar
    go_enter Try.func77, Try.ntmps77
    go_wp2_with fail
    refine (rHash_any v l _ HB.out).mono ?_
    rintro e w1 ⟨rfl, rfl⟩
    go_wp2_with fail
    rw [← HS1.out]
    clear hb1 hb2 hb3 hR
    go_loopw [7, 9, 10] (fun x out i wr => ∃ k : Nat, k ≤ p ∧ i = .int .i64 k ∧ x = .int .u64 (hi (hashF l) (stepF (hashF l)) k) ∧ Hid (wr.ownsRow w.heap.size 44 1 out k ((nums l m k).map (Value.int .u64))) ∧ Hid (Below w.heap.size w wr)) (fun _ _ i _ => p - (intOf i).toNat)
    case atStart => exact ⟨0, Nat.zero_le _, rfl, rfl, World.ownsRow_nil _ _ _ _, Below.refl _ _⟩
    case round =>
      obtain ⟨k, hk, rfl, rfl, hown, hbel⟩ := hrel
      by_cases hlt : k < p
      · have hi1 := hi_rng (s := stepF (hashF l)) hh k
        go_wp2_with (at_builtin; refine wpList_append_one (w := wr) (.tmp 29) (.tmp 33) _ rfl rfl i0 _ 8 Try.underlying114 HI.out HZ0.out HZ1.out HZ2.out rfl (.int .u64 (hi (hashF l) (stepF (hashF l)) k % m)) rfl rfl hown.out rfl (by omega) (by omega) hbel.out.size ?_; intro v' w1 hown' hb')
        go_roundw
        case rel => exact ⟨k + 1, by omega, by go_num, rfl, by rw [nums_succ, List.map_append]; exact hown', hbel.out.trans hb'⟩
        case measure => simp [intOf]; omega
      · have hkp : k = p := by omega
        subst hkp
        go_wp2_with fail
        go_ret
        exact ⟨_, rfl, hown.out, hbel.out⟩
  · obtain ⟨R, hR⟩ : ∃ R, hashF l % 8589934592 * 2147483648 + hashF l / 8589934592 = R := ⟨_, rfl⟩
    have hS := HS.out
    rw [hR] at hS hpar
    rw [if_neg hpar] at hS
    have HS1 := Lib.hid hS
    have hb1 : (R % 2 == 0) = false := by simp; exact hpar
    have hb2 : 0 ≤ R := by omega
    have hb3 : R ≤ 18446744073709551615 := by omega
    clear hS HS hpar
    go_enter Try.func77, Try.ntmps77
    go_wp2_with fail
    refine (rHash_any v l _ HB.out).mono ?_
    rintro e w1 ⟨rfl, rfl⟩
    go_wp2_with fail
    rw [← HS1.out]
    clear hb1 hb2 hb3 hR
    go_loopw [7, 9, 10] (fun x out i wr => ∃ k : Nat, k ≤ p ∧ i = .int .i64 k ∧ x = .int .u64 (hi (hashF l) (stepF (hashF l)) k) ∧ Hid (wr.ownsRow w.heap.size 44 1 out k ((nums l m k).map (Value.int .u64))) ∧ Hid (Below w.heap.size w wr)) (fun _ _ i _ => p - (intOf i).toNat)
    case atStart => exact ⟨0, Nat.zero_le _, rfl, rfl, World.ownsRow_nil _ _ _ _, Below.refl _ _⟩
    case round =>
      obtain ⟨k, hk, rfl, rfl, hown, hbel⟩ := hrel
      by_cases hlt : k < p
      · have hi1 := hi_rng (s := stepF (hashF l)) hh k
        go_wp2_with (at_builtin; refine wpList_append_one (w := wr) (.tmp 29) (.tmp 33) _ rfl rfl i0 _ 8 Try.underlying114 HI.out HZ0.out HZ1.out HZ2.out rfl (.int .u64 (hi (hashF l) (stepF (hashF l)) k % m)) rfl rfl hown.out rfl (by omega) (by omega) hbel.out.size ?_; intro v' w1 hown' hb')
        go_roundw
        case rel => exact ⟨k + 1, by omega, by go_num, rfl, by rw [nums_succ, List.map_append]; exact hown', hbel.out.trans hb'⟩
        case measure => simp [intOf]; omega
      · have hkp : k = p := by omega
        subst hkp
        go_wp2_with fail
        go_ret
        exact ⟨_, rfl, hown.out, hbel.out⟩

theorem ret_bool {a b : Bool} (h : a = b) : Ending.returned (.bool a) = .returned (.bool b) := by rw [h]
theorem nums_at {l : List Int} {m : Int} {p k : Nat} {x : Value} (hk : k < p) (h : ((nums l m p).map (Value.int .u64))[k]? = some x) : x = .int .u64 (num l m k) := by
  simp [nums, hk] at h
  exact h.symm

set_option maxHeartbeats 1000000 in
theorem rMay_any (fv kv : Value) (f l : List Int) (w : World) (hf : IsB w fv f) (hk : IsB w kv l) (hfl : f.length ≤ 140737488355328) :
    Calls Try.prog 55 #[fv, kv] w (Ret (.bool (mayF f l)) w) := by
  have HF := Lib.hid hf
  have HK := Lib.hid hk
  obtain ⟨ao, cap, rfl, _, _, _⟩ := hf.form
  by_cases h9 : f.length < 9
  · have e : mayF f l = true := by unfold mayF; rw [if_pos (.inl h9)]
    rw [e]; clear e
    clear hf hk
    have h0 : decide ((f.length : Int) < 9) = true := by simp; omega
    go_enter Try.func55, Try.ntmps55
    go_wp2_with fail
    go_ret
    exact ⟨rfl, (by repeat' (first | (with_reducible exact Below.refl _ _) | (with_reducible assumption) | (with_reducible refine Below.drew ?_) | (with_reducible refine below_drewN ?_ _) | (with_reducible refine bel_alloc ?_ _) | (with_reducible refine Below.setCell ?_ ?_ _) | (with_reducible refine bel_call ?_ (by assumption)) | (simp <;> omega)))⟩
  · obtain ⟨b, o, x, rfl, hb, hx, hc, hlo, hhi⟩ := hf.at_ (k := 0) (by omega)
    rw [Nat.add_zero] at hc
    have h0 : decide ((f.length : Int) < 9) = false := by simp; omega
    have ex : f.getD 0 0 = x := by simp [List.getD, hx.out]
    by_cases h8 : (f.length - 1) % 8 = 0
    · have h1 : (((f.length : Int) % 8) != 1) = false := by simp; omega
      by_cases hx0 : x = 0
      · have e : mayF f l = true := by unfold mayF; rw [if_pos (.inr (.inr (.inl (by rw [ex]; exact hx0))))]
        rw [e]; clear e ex
        subst hx0
        clear hf hk
        go_enter Try.func55, Try.ntmps55
        go_wp2_with fail
        go_ret
        exact ⟨rfl, (by repeat' (first | (with_reducible exact Below.refl _ _) | (with_reducible assumption) | (with_reducible refine Below.drew ?_) | (with_reducible refine below_drewN ?_ _) | (with_reducible refine bel_alloc ?_ _) | (with_reducible refine Below.setCell ?_ ?_ _) | (with_reducible refine bel_call ?_ (by assumption)) | (simp <;> omega)))⟩
      · have h2 : decide (x < 1) = false := by simp; omega
        by_cases hx30 : 30 < x
        · have e : mayF f l = true := by unfold mayF; rw [if_pos (.inr (.inr (.inr (by rw [ex]; exact hx30))))]
          rw [e]; clear e ex
          clear hf hk
          have h3 : decide (30 < x) = true := by simpa using hx30
          go_enter Try.func55, Try.ntmps55
          go_wp2_with fail
          go_ret
          exact ⟨rfl, (by repeat' (first | (with_reducible exact Below.refl _ _) | (with_reducible assumption) | (with_reducible refine Below.drew ?_) | (with_reducible refine below_drewN ?_ _) | (with_reducible refine bel_alloc ?_ _) | (with_reducible refine Below.setCell ?_ ?_ _) | (with_reducible refine bel_call ?_ (by assumption)) | (simp <;> omega)))⟩
        · have e : mayF f l = allB (fun i => isSet f (num l (((f.length : Int) - 1) * 8) i)) x.toNat := by
            unfold mayF; rw [if_neg (by rw [ex]; omega), ex]
          rw [e]; clear e ex
          clear hf hk
          have h3 : decide (30 < x) = false := by simp; omega
          obtain ⟨p, rfl⟩ := Int.eq_ofNat_of_zero_le hlo
          obtain ⟨m, hM⟩ : ∃ m, m = ((f.length : Int) - 1) * 8 := ⟨_, rfl⟩
          have hm2 : 64 ≤ m ∧ m ≤ 1125899906842624 := by omega
          have hm : 8 * ((f.length : Int) - 1) = m := by omega
          rw [← hM]
          have HM := Lib.hid hM
          have hp30 : p ≤ 30 := by omega
          have hf9 : 9 ≤ f.length := by omega
          clear hM hx30 hx0 h9
          go_enter Try.func55, Try.ntmps55
          go_wp2_with fail
          clear hm
          refine (rBits_any kv l p m _ HK.out (by omega) (by omega)).mono ?_
          rintro e w1 ⟨v1, rfl, own, hb1⟩
          obtain ⟨ao1, cap1, rfl, _, _, _, _⟩ := own_form own
          have OWN := Lib.hid own
          have HF1 := Lib.hid (HF.out.below hb1)
          have z1 := hb1.size
          have HB1 := Lib.hid hb1
          clear own hb1 hc h0 h1 h2 h3
          go_wp2_with fail
          go_loop [6] (fun i => ∃ k : Nat, k ≤ p ∧ i = .int .i64 k ∧ Hid (allB (fun i => isSet f (num l m i)) k = true)) (fun i => p - (intOf i).toNat)
          case atStart => exact ⟨0, Nat.zero_le _, rfl, rfl⟩
          case round =>
            obtain ⟨k, hk, rfl, hall⟩ := hrel
            by_cases hlt : k < p
            · obtain ⟨g1, y, rfl, _, _, hy, hcy, _⟩ := own_at OWN.out hlt
              have e1 := nums_at hlt hy.out
              subst e1
              have hr := num_rng l (m := m) (by omega) k
              obtain ⟨q, hq⟩ := Int.eq_ofNat_of_zero_le hr.1
              rw [hq] at hcy hr
              have HQ := Lib.hid hq
              have hqf : 1 + q / 8 < f.length := by have := HM.out; omega
              clear hq hy
              obtain ⟨b2, o2, x2, he, hb2, hx2, hc2, hl2, hh2⟩ := HF1.out.at_ hqf
              simp only [Option.some.injEq, Addr.mk.injEq, and_true] at he
              obtain ⟨rfl, rfl⟩ := he
              cases ht : isSet f (num l m k)
              · have HT := Lib.hid (allB_false (t := fun i => isSet f (num l m i)) ht p hlt)
                have ht2 : (bits .and .u8 x2 (2 ^ (q % 8) % 256) == 0) = true := by
                  have := ht
                  unfold isSet atF bitF at this
                  rw [HQ.out] at this
                  have e2 : f.getD (1 + ((q : Int) / 8).toNat) 0 = x2 := by
                    have : ((q : Int) / 8).toNat = q / 8 := by omega
                    rw [this]; simp [List.getD, hx2.out]
                  have e3 : ((q : Int) % 8).toNat = q % 8 := by omega
                  rw [e2, e3] at this
                  simpa using this
                clear ht
                go_upto_if 64 with (fail)
                (repeat go_step)
                go_ret
                exact ⟨ret_bool HT.out.symm, HB1.out⟩
              · have HT := Lib.hid ht
                have ht2 : (bits .and .u8 x2 (2 ^ (q % 8) % 256) == 0) = false := by
                  have := ht
                  unfold isSet atF bitF at this
                  rw [HQ.out] at this
                  have e2 : f.getD (1 + ((q : Int) / 8).toNat) 0 = x2 := by
                    have : ((q : Int) / 8).toNat = q / 8 := by omega
                    rw [this]; simp [List.getD, hx2.out]
                  have e3 : ((q : Int) % 8).toNat = q % 8 := by omega
                  rw [e2, e3] at this
                  simpa using this
                clear ht
                go_upto_if 64 with (fail)
                go_step
                clear ht2 hcy hc2 hr hqf hl2 hh2 hb2 hx2
                go_wp2_with fail
                go_round
                case rel => exact ⟨k + 1, by omega, by go_num, by unfold Hid; simp only [allB]; rw [hall.out, HT.out]; rfl⟩
                case measure => simp [intOf]; omega
            · have hkp : k = p := by omega
              subst hkp
              go_wp2_with fail
              go_ret
              exact ⟨ret_bool hall.out.symm, HB1.out⟩
    · have e : mayF f l = true := by unfold mayF; rw [if_pos (.inr (.inl h8))]
      rw [e]; clear e ex
      clear hf hk
      have h1 : (((f.length : Int) % 8) != 1) = true := by rw [bne_iff_ne]; omega
      go_enter Try.func55, Try.ntmps55
      go_wp2_with fail
      go_ret
      exact ⟨rfl, (by repeat' (first | (with_reducible exact Below.refl _ _) | (with_reducible assumption) | (with_reducible refine Below.drew ?_) | (with_reducible refine below_drewN ?_ _) | (with_reducible refine bel_alloc ?_ _) | (with_reducible refine Below.setCell ?_ ?_ _) | (with_reducible refine bel_call ?_ (by assumption)) | (simp <;> omega)))⟩
end Bloom
end Go.Proofs.Ytmojbamloanleaa
