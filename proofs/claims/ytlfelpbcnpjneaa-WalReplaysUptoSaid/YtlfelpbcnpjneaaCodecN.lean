/- codec: Number and TakeNumber of both. -/
import Derived.Test.YtlfelpbcnpjneaaCodecL
import Derived.Test.YtlfelpbcnpjneaaBytesFn
namespace Go.Proofs.Ytlfelpbcnpjneaa
open Go.RowKit
namespace Codec
theorem or128 (m : Nat) : bits .or .u8 ((m : Int) % 256) 128 = 128 + (m : Int) % 128 := by
  have h := bits_or_nat (k := .u8) rfl (m % 256) 128 (Nat.mod_lt _ (by decide)) (by decide)
  have d : ∀ x : Fin 256, (x.val ||| 128) = 128 + x.val % 128 := by decide +kernel
  have d2 := d ⟨m % 256, Nat.mod_lt _ (by decide)⟩
  simp only at d2
  rw [d2] at h
  have e : (((m % 256 : Nat) : Int)) = (m : Int) % 256 := by omega
  rw [e] at h
  rw [show (128 : Int) = ((128 : Nat) : Int) from rfl, h]
  omega
def NumPost (n : Nat) (w : World) (e : Ending) (w' : World) : Prop := ∃ v, e = .returned v ∧ OwnS w' w.heap.size 5 v (numN n) ∧ Below w.heap.size w w'
set_option maxHeartbeats 1000000 in
theorem number_any (n : Nat) (w : World) (hn : n < 18446744073709551616) :
    Calls Try.prog 18 #[.int .u64 n] w (NumPost n w) := by
  have h10 := numN_len10 hn
  have H10 := Lib.hid h10
  clear h10
  obtain ⟨i0, hi0, hz0, hz1, hz2⟩ := info_parts infoU8
  have HI := Lib.hid hi0; have HZ0 := Lib.hid hz0; have HZ1 := Lib.hid hz1; have HZ2 := Lib.hid hz2
  clear hi0 hz0 hz1 hz2
  go_enter Try.func18, Try.ntmps18
  go_wp2_with fail
  go_loopw [0, 3] (fun x out wr => ∃ (m : Nat) (pre : List Int), m < 18446744073709551616 ∧ pre.length ≤ 10 ∧ x = .int .u64 m ∧ Hid (pre ++ numN m = numN n) ∧ Hid (wr.ownsRow w.heap.size 5 1 out pre.length (pre.map (Value.int .u8))) ∧ Hid (Below w.heap.size w wr)) (fun x _ _ => (intOf x).toNat)
  case atStart => exact ⟨n, [], hn, by simp, rfl, rfl, World.ownsRow_nil _ _ _ _, Below.refl _ _⟩
  case round =>
    obtain ⟨m, pre, hm, hp, rfl, hpre, hown, hbel⟩ := hrel
    by_cases hlt : 127 < m
    · have e1 := or128 m
      have hpre' : (pre ++ [128 + (m : Int) % 128]) ++ numN (m / 128) = numN n := by
        rw [List.append_assoc, List.singleton_append, ← numN_hi (by omega)]; exact hpre.out
      have HP := Lib.hid hpre'
      have hl9 : pre.length + 1 ≤ 10 := by
        have h1 := congrArg List.length hpre'
        have h2 := numN_pos (m / 128)
        have h3 := H10.out
        simp at h1
        omega
      have E1 := Lib.hid e1
      clear hpre' e1
      go_wp2_with (at_builtin; rw [E1.out]; refine wpList_append_one (w := wr) (base := w.heap.size) (.tmp 8) (.tmp 12) _ rfl rfl i0 _ 1 Try.underlying28 HI.out HZ0.out HZ1.out HZ2.out rfl (.int .u8 (128 + (m : Int) % 128)) rfl rfl hown.out rfl (by omega) (by omega) hbel.out.size ?_; intro v' w1 hown' hb'; have HO := Lib.hid hown'; have HB := Lib.hid hb'; clear hown' hb')
      go_roundw
      case rel => exact ⟨m / 128, pre ++ [128 + (m : Int) % 128], by omega, by simp; omega, by go_num, HP.out, by rw [List.map_append, List.length_append]; exact HO.out, hbel.out.trans HB.out⟩
      case measure => simp [intOf]; omega
    · have hpn : pre ++ [(m : Int)] = numN n := by rw [← numN_lo (by omega)]; exact hpre.out
      have HP := Lib.hid hpn
      clear hpn
      go_wp2_with (at_builtin; refine wpList_append_one (w := wr) (base := w.heap.size) (.tmp 14) (.tmp 17) _ rfl rfl i0 _ 1 Try.underlying28 HI.out HZ0.out HZ1.out HZ2.out rfl (.int .u8 (m : Int)) rfl rfl hown.out rfl (by omega) (by omega) hbel.out.size ?_; intro v' w1 hown' hb'; have HO := Lib.hid hown'; have HB := Lib.hid hb'; obtain ⟨ao, cap, rfl, hnc, hcap, _, _⟩ := own_form hown'; clear hown' hb')
      refine (clip_any ao _ cap _ hnc hcap).mono ?_
      rintro e w2 ⟨rfl, rfl⟩
      go_wp2_with fail
      go_ret
      have ho : w1.ownsRow w.heap.size 5 1 (.slice ao (pre.length + 1) cap) (pre.length + 1) ((numN n).map (Value.int .u8)) := by
        rw [← HP.out, List.map_append]; exact HO.out
      exact ⟨_, rfl, (OwnS.of_own ho (numN_rng n)).clip, hbel.out.trans HB.out⟩
def RNumPost (n : Nat) (w : World) (e : Ending) (w' : World) : Prop := ∃ v, e = .returned v ∧ w'.ownsRow w.heap.size 5 1 v (numN n).length ((numN n).map (Value.int .u8)) ∧ Below w.heap.size w w'
set_option maxRecDepth 100000 in
set_option maxHeartbeats 1000000 in
theorem rNumber_any (n : Nat) (w : World) (hn : n < 18446744073709551616) :
    Calls Try.prog 27 #[.int .u64 n] w (RNumPost n w) := by
  have h10 := numN_len10 hn
  have H10 := Lib.hid h10
  clear h10
  obtain ⟨i0, hi0, hz0, hz1, hz2⟩ := info_parts infoU8
  have HI := Lib.hid hi0; have HZ0 := Lib.hid hz0; have HZ1 := Lib.hid hz1; have HZ2 := Lib.hid hz2
  clear hi0 hz0 hz1 hz2
  go_enter Try.func27, Try.ntmps27
  go_wp2_with fail
  go_loopw [0, 3] (fun x out wr => ∃ (m : Nat) (pre : List Int), m < 18446744073709551616 ∧ pre.length ≤ 10 ∧ x = .int .u64 m ∧ Hid (pre ++ numN m = numN n) ∧ Hid (wr.ownsRow w.heap.size 5 1 out pre.length (pre.map (Value.int .u8))) ∧ Hid (Below w.heap.size w wr)) (fun x _ _ => (intOf x).toNat)
  case atStart => exact ⟨n, [], hn, by simp, rfl, rfl, World.ownsRow_nil _ _ _ _, Below.refl _ _⟩
  case round =>
    obtain ⟨m, pre, hm, hp, rfl, hpre, hown, hbel⟩ := hrel
    by_cases hlt : 127 < m
    · have e1 := or128 m
      have hpre' : (pre ++ [128 + (m : Int) % 128]) ++ numN (m / 128) = numN n := by
        rw [List.append_assoc, List.singleton_append, ← numN_hi (by omega)]; exact hpre.out
      have HP := Lib.hid hpre'
      have hl9 : pre.length + 1 ≤ 10 := by
        have h1 := congrArg List.length hpre'
        have h2 := numN_pos (m / 128)
        have h3 := H10.out
        simp at h1
        omega
      have E1 := Lib.hid e1
      clear hpre' e1
      go_wp2_with (at_builtin; refine wpList_append_one (w := wr) (base := w.heap.size) (.tmp 6) (.tmp 11) _ rfl rfl i0 _ 1 Try.underlying28 HI.out HZ0.out HZ1.out HZ2.out rfl (.int .u8 (128 + (m : Int) % 128)) rfl rfl hown.out rfl (by omega) (by omega) hbel.out.size ?_; intro v' w1 hown' hb'; have HO := Lib.hid hown'; have HB := Lib.hid hb'; clear hown' hb')
      go_roundw
      case rel => exact ⟨m / 128, pre ++ [128 + (m : Int) % 128], by omega, by simp; omega, by go_num, HP.out, by rw [List.map_append, List.length_append]; exact HO.out, hbel.out.trans HB.out⟩
      case measure => simp [intOf]; omega
    · have hpn : pre ++ [(m : Int)] = numN n := by rw [← numN_lo (by omega)]; exact hpre.out
      have HP := Lib.hid hpn
      clear hpn
      go_wp2_with (at_builtin; refine wpList_append_one (w := wr) (base := w.heap.size) (.tmp 15) (.tmp 18) _ rfl rfl i0 _ 1 Try.underlying28 HI.out HZ0.out HZ1.out HZ2.out rfl (.int .u8 (m : Int)) rfl rfl hown.out rfl (by omega) (by omega) hbel.out.size ?_; intro v' w1 hown' hb'; have HO := Lib.hid hown'; have HB := Lib.hid hb'; obtain ⟨ao, cap, rfl, hnc, hcap, _, _⟩ := own_form hown'; clear hown' hb')
      go_ret
      have ho : w1.ownsRow w.heap.size 5 1 (.slice ao (pre.length + 1) cap) (numN n).length ((numN n).map (Value.int .u8)) := by
        rw [← HP.out, List.map_append, List.length_append]; exact HO.out
      exact ⟨_, rfl, ho, hbel.out.trans HB.out⟩
end Codec
end Go.Proofs.Ytlfelpbcnpjneaa
