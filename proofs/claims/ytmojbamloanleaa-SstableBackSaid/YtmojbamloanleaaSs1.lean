/- sstable: which entries may be, their order (walks). -/
import Derived.Test.YtmojbamloanleaaSsM3
import Derived.Test.YtmojbamloanleaaSsP
set_option linter.unusedVariables false
set_option linter.unusedSimpArgs false
namespace Go.Proofs.Ytmojbamloanleaa
open Go.RowKit
namespace Ss
open Mt Codec
set_option maxRecDepth 100000 in
set_option maxHeartbeats 4000000 in
theorem fits_any (kv vv : Value) (x : En) (w : World) (hk : IsB w kv x.1) (hv : IsB w vv x.2.2.2) : Calls Try.prog 32 #[.agg #[kv, .int .u64 x.2.1, .bool x.2.2.1, vv]] w (Ret (.bool (mayB x)) w) := by
  obtain ⟨ko, kc, rfl, -, -, -⟩ := hk.form
  obtain ⟨vo, vc, rfl, -, -, -⟩ := hv.form
  have m1 := hk.max
  have m2 := hv.max
  clear hk hv
  go_enter Try.func32, Try.ntmps32
  cases hd : x.2.2.1 with
  | true =>
    by_cases hz : 0 < x.2.2.2.length
    · have q0 : (0 : Int) < x.2.2.2.length := by omega
      have HE : Hid (mayB x = false) := Lib.hid (by
        cases hm : mayB x with
        | false => rfl
        | true =>
          unfold mayB at hm
          rw [hd] at hm
          simp only [Bool.and_eq_true, Bool.or_eq_true, Bool.not_eq_true', decide_eq_true_eq, Bool.true_eq_false, false_or] at hm
          omega)
      go_wp2_with fail
      go_ret
      rw [HE.out]
      exact ⟨rfl, bel_alloc (Below.refl _ w) _⟩
    · have q0 : ¬ (0 : Int) < x.2.2.2.length := by omega
      have k5 : x.2.2.2.length ≤ 65536 := by omega
      have q5 : (x.2.2.2.length : Int) ≤ 65536 := by omega
      by_cases k1 : 1 ≤ x.1.length
      · have q1 : (0 : Int) < x.1.length := by omega
        by_cases k2 : x.1.length ≤ 256
        · have q2 : (x.1.length : Int) ≤ 256 := by omega
          by_cases k3 : 0 < x.2.1
          · by_cases k4 : x.2.1 ≤ 4611686018427387904
            · have HE : Hid (mayB x = true) := Lib.hid (by
                unfold mayB
                simp only [Bool.and_eq_true, Bool.or_eq_true, Bool.not_eq_true', decide_eq_true_eq]
                refine ⟨k1, k2, by omega, k4, k5, ?_⟩
                exact .inr (by omega))
              go_wp2_with fail
              go_ret
              rw [HE.out]
              exact ⟨rfl, bel_alloc (Below.refl _ w) _⟩
            · have HE : Hid (mayB x = false) := Lib.hid (by
                cases hm : mayB x with
                | false => rfl
                | true =>
                  unfold mayB at hm
                  simp only [Bool.and_eq_true, Bool.or_eq_true, Bool.not_eq_true', decide_eq_true_eq] at hm
                  omega)
              go_wp2_with fail
              go_ret
              rw [HE.out]
              exact ⟨rfl, bel_alloc (Below.refl _ w) _⟩
          · have HE : Hid (mayB x = false) := Lib.hid (by
              cases hm : mayB x with
              | false => rfl
              | true =>
                unfold mayB at hm
                simp only [Bool.and_eq_true, Bool.or_eq_true, Bool.not_eq_true', decide_eq_true_eq] at hm
                omega)
            go_wp2_with fail
            go_ret
            rw [HE.out]
            exact ⟨rfl, bel_alloc (Below.refl _ w) _⟩
        · have q2 : ¬ (x.1.length : Int) ≤ 256 := by omega
          have HE : Hid (mayB x = false) := Lib.hid (by
            cases hm : mayB x with
            | false => rfl
            | true =>
              unfold mayB at hm
              simp only [Bool.and_eq_true, Bool.or_eq_true, Bool.not_eq_true', decide_eq_true_eq] at hm
              omega)
          go_wp2_with fail
          go_ret
          rw [HE.out]
          exact ⟨rfl, bel_alloc (Below.refl _ w) _⟩
      · have q1 : ¬ (0 : Int) < x.1.length := by omega
        have HE : Hid (mayB x = false) := Lib.hid (by
          cases hm : mayB x with
          | false => rfl
          | true =>
            unfold mayB at hm
            simp only [Bool.and_eq_true, Bool.or_eq_true, Bool.not_eq_true', decide_eq_true_eq] at hm
            omega)
        go_wp2_with fail
        go_ret
        rw [HE.out]
        exact ⟨rfl, bel_alloc (Below.refl _ w) _⟩
  | false =>
    by_cases k1 : 1 ≤ x.1.length
    · have q1 : (0 : Int) < x.1.length := by omega
      by_cases k2 : x.1.length ≤ 256
      · have q2 : (x.1.length : Int) ≤ 256 := by omega
        by_cases k3 : 0 < x.2.1
        · by_cases k4 : x.2.1 ≤ 4611686018427387904
          · by_cases k5 : x.2.2.2.length ≤ 65536
            · have q5 : (x.2.2.2.length : Int) ≤ 65536 := by omega
              have HE : Hid (mayB x = true) := Lib.hid (by
                unfold mayB
                simp only [Bool.and_eq_true, Bool.or_eq_true, Bool.not_eq_true', decide_eq_true_eq]
                refine ⟨k1, k2, by omega, k4, k5, ?_⟩
                exact .inl hd)
              go_wp2_with fail
              go_ret
              rw [HE.out]
              exact ⟨rfl, bel_alloc (Below.refl _ w) _⟩
            · have q5 : ¬ (x.2.2.2.length : Int) ≤ 65536 := by omega
              have HE : Hid (mayB x = false) := Lib.hid (by
                cases hm : mayB x with
                | false => rfl
                | true =>
                  unfold mayB at hm
                  simp only [Bool.and_eq_true, Bool.or_eq_true, Bool.not_eq_true', decide_eq_true_eq] at hm
                  omega)
              go_wp2_with fail
              go_ret
              rw [HE.out]
              exact ⟨rfl, bel_alloc (Below.refl _ w) _⟩
          · have HE : Hid (mayB x = false) := Lib.hid (by
              cases hm : mayB x with
              | false => rfl
              | true =>
                unfold mayB at hm
                simp only [Bool.and_eq_true, Bool.or_eq_true, Bool.not_eq_true', decide_eq_true_eq] at hm
                omega)
            go_wp2_with fail
            go_ret
            rw [HE.out]
            exact ⟨rfl, bel_alloc (Below.refl _ w) _⟩
        · have HE : Hid (mayB x = false) := Lib.hid (by
            cases hm : mayB x with
            | false => rfl
            | true =>
              unfold mayB at hm
              simp only [Bool.and_eq_true, Bool.or_eq_true, Bool.not_eq_true', decide_eq_true_eq] at hm
              omega)
          go_wp2_with fail
          go_ret
          rw [HE.out]
          exact ⟨rfl, bel_alloc (Below.refl _ w) _⟩
      · have q2 : ¬ (x.1.length : Int) ≤ 256 := by omega
        have HE : Hid (mayB x = false) := Lib.hid (by
          cases hm : mayB x with
          | false => rfl
          | true =>
            unfold mayB at hm
            simp only [Bool.and_eq_true, Bool.or_eq_true, Bool.not_eq_true', decide_eq_true_eq] at hm
            omega)
        go_wp2_with fail
        go_ret
        rw [HE.out]
        exact ⟨rfl, bel_alloc (Below.refl _ w) _⟩
    · have q1 : ¬ (0 : Int) < x.1.length := by omega
      have HE : Hid (mayB x = false) := Lib.hid (by
        cases hm : mayB x with
        | false => rfl
        | true =>
          unfold mayB at hm
          simp only [Bool.and_eq_true, Bool.or_eq_true, Bool.not_eq_true', decide_eq_true_eq] at hm
          omega)
      go_wp2_with fail
      go_ret
      rw [HE.out]
      exact ⟨rfl, bel_alloc (Below.refl _ w) _⟩
set_option maxRecDepth 100000 in
set_option maxHeartbeats 4000000 in
theorem order_any (kv vv kv' vv' : Value) (x y : En) (w : World) (hk : IsB w kv x.1) (hv : IsB w vv x.2.2.2) (hk' : IsB w kv' y.1) (hv' : IsB w vv' y.2.2.2) :
    Calls Try.prog 33 #[.agg #[kv, .int .u64 x.2.1, .bool x.2.2.1, vv], .agg #[kv', .int .u64 y.2.1, .bool y.2.2.1, vv']] w (Ret (.int .i64 (cmpE x y)) w) := by
  obtain ⟨ko, kc, rfl, -, -, -⟩ := hk.form
  obtain ⟨vo, vc, rfl, -, -, -⟩ := hv.form
  obtain ⟨ko', kc', rfl, -, -, -⟩ := hk'.form
  obtain ⟨vo', vc', rfl, -, -, -⟩ := hv'.form
  obtain ⟨key, seq, del, val⟩ := x
  obtain ⟨key', seq', del', val'⟩ := y
  simp only at hk hv hk' hv' ⊢
  have HC := Lib.hid (Codec.ccompare_any _ _ key key' ((w.alloc (.cells #[.slice ko key.length kc, .int .u64 seq, .bool del, .slice vo val.length vc] 46)).alloc (.cells #[.slice ko' key'.length kc', .int .u64 seq', .bool del', .slice vo' val'.length vc'] 46)) ((hk.alloc _).alloc _) ((hk'.alloc _).alloc _))
  have hE : cmpE (key, seq, del, val) (key', seq', del', val') = (if cmpB key key' ≠ 0 then cmpB key key' else if seq' < seq then -1 else if seq < seq' then 1 else 0) := rfl
  clear hk hv hk' hv'
  generalize cmpB key key' = c at *
  have fin : Below w.heap.size w ((w.alloc (.cells #[.slice ko key.length kc, .int .u64 seq, .bool del, .slice vo val.length vc] 46)).alloc (.cells #[.slice ko' key'.length kc', .int .u64 seq', .bool del', .slice vo' val'.length vc'] 46)) := bel_alloc (bel_alloc (Below.refl _ w) _) _
  have FIN := Lib.hid fin
  clear fin
  by_cases h0 : c = 0
  · subst h0
    rw [if_neg (by simp)] at hE
    by_cases h1 : seq = seq'
    · have HE : Hid (cmpE (key, seq, del, val) (key', seq', del', val') = 0) := Lib.hid (by rw [hE, if_neg (by omega), if_neg (by omega)])
      have q1 : (seq == seq') = true := by simp [h1]
      clear hE h1
      go_enter Try.func33, Try.ntmps33
      go_wp2_with fail
      refine HC.out.mono ?_
      rintro e w1 ⟨rfl, rfl⟩
      go_wp2_with fail
      go_ret
      exact ⟨by rw [HE.out]; rfl, FIN.out⟩
    · have q1 : (seq == seq') = false := by simp [h1]
      by_cases h2 : seq' < seq
      · have HE : Hid (cmpE (key, seq, del, val) (key', seq', del', val') = -1) := Lib.hid (by rw [hE, if_pos h2])
        clear hE h1
        go_enter Try.func33, Try.ntmps33
        go_wp2_with fail
        refine HC.out.mono ?_
        rintro e w1 ⟨rfl, rfl⟩
        go_wp2_with fail
        go_ret
        exact ⟨by rw [HE.out]; rfl, FIN.out⟩
      · have HE : Hid (cmpE (key, seq, del, val) (key', seq', del', val') = 1) := Lib.hid (by rw [hE, if_neg h2, if_pos (by omega)])
        clear hE h1
        go_enter Try.func33, Try.ntmps33
        go_wp2_with fail
        refine HC.out.mono ?_
        rintro e w1 ⟨rfl, rfl⟩
        go_wp2_with fail
        go_ret
        exact ⟨by rw [HE.out]; rfl, FIN.out⟩
  · have q0 : (c != 0) = true := by simp [h0]
    rw [if_pos h0] at hE
    have HE := Lib.hid hE
    clear hE h0
    go_enter Try.func33, Try.ntmps33
    go_wp2_with fail
    refine HC.out.mono ?_
    rintro e w1 ⟨rfl, rfl⟩
    go_wp2_with fail
    go_ret
    exact ⟨by rw [HE.out]; rfl, FIN.out⟩
end Ss
end Go.Proofs.Ytmojbamloanleaa
