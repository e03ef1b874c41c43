/- package bloom: Make's closure, and each with it. -/
import Derived.Test.YtmojbamloanleaaBloom3
set_option linter.unusedVariables false
set_option linter.unusedSimpArgs false
namespace Go.Proofs.Ytmojbamloanleaa
open Go.RowKit
namespace Bloom
/-- a number's bit set -/
def setBit (f : List Int) (n : Int) : List Int := f.set (atF n) (bits .or .u8 (f.getD (atF n) 0) (bitF n))
/-- the bits of a key's first k numbers set -/
def setAll (f l : List Int) (m : Int) : Nat → List Int
  | 0 => f
  | k + 1 => setBit (setAll f l m k) (num l m k)
theorem setAll_len (f l : List Int) (m : Int) : ∀ k, (setAll f l m k).length = f.length
  | 0 => rfl
  | k + 1 => by simp only [setAll, setBit, List.length_set]; exact setAll_len f l m k
/-- what the closure leaves -/
def CloPost (B n : Nat) (fv : Value) (f : List Int) (q c : Int) (w : World) (e : Ending) (w' : World) : Prop :=
  e = .returned (.bool true) ∧ w'.ownsRow B 5 1 fv n ((f.set (1 + q.toNat) (bits .or .u8 (f.getD (1 + q.toNat) 0) c)).map (Value.int .u8)) ∧ w.grownBy w' fv.ownBlock
set_option maxHeartbeats 400000 in
theorem makeClo (B n : Nat) (fv : Value) (f : List Int) (g : Nat) (q c : Int) (w : World) (h : w.ownsRow B 5 1 fv n (f.map (Value.int .u8))) (hg : w.cell? ⟨g, 0, none⟩ = some fv) (hq : 0 ≤ q ∧ q + 1 < n) :
    Calls Try.prog 88 #[.int .i64 q, .int .u8 c, .pointer (some ⟨g, 0, none⟩)] w (CloPost B n fv f q c w) := by
  obtain ⟨k, rfl⟩ := Int.eq_ofNat_of_zero_le hq.1
  have hk : 1 + k < n := by omega
  obtain ⟨ao, cap, rfl, hnc, hcap, _, _⟩ := own_form h
  obtain ⟨b, x, rfl, hb1, hb2, hx, hc, hf⟩ := own_at h hk
  have hfl : f.length = n := by have := own_len h; simpa using this
  have hx2 : ∃ y, x = .int .u8 y ∧ f.getD (1 + k) 0 = y := by
    have := hx.out
    simp only [List.getElem?_map, Option.map_eq_some_iff] at this
    obtain ⟨y, hy, rfl⟩ := this
    exact ⟨y, rfl, by simp [List.getD, hy]⟩
  obtain ⟨y, rfl, hy⟩ := hx2
  have H := Lib.hid h
  have HY := Lib.hid hy
  clear h hx hy
  go_enter Try.func88, Try.ntmps88
  go_wp2_with fail
  go_ret
  have st := H.out.stored (1 + k) (.int .u8 (bits .or .u8 y c))
  refine ⟨rfl, ?_, st.2⟩
  have e : (f.set (1 + (k : Int).toNat) (bits .or .u8 (f.getD (1 + (k : Int).toNat) 0) c)).map (Value.int .u8) = (f.map (Value.int .u8)).set (1 + k) (.int .u8 (bits .or .u8 y c)) := by
    rw [Int.toNat_natCast, HY.out, List.map_set]
  rw [e]
  exact st.1
/-- what each leaves behind Make's closure -/
def EachPost (B n : Nat) (fv : Value) (f l : List Int) (m : Int) (p : Nat) (w : World) (e : Ending) (w' : World) : Prop :=
  e = .returned (.bool true) ∧ w'.ownsRow B 5 1 fv n ((setAll f l m p).map (Value.int .u8)) ∧ w.grownBy w' fv.ownBlock
theorem grown_cell {w w' : World} {row : Option Nat} (h : w.grownBy w' row) {g o : Nat} {v : Value} (hc : w.cell? ⟨g, o, none⟩ = some v) (hne : row ≠ some g) : w'.cell? ⟨g, o, none⟩ = some v :=
  World.grownBy.cell h hc (fun e => hne e.symm)
theorem grown_trans' {a b c : World} {row : Option Nat} (h : a.grownBy b row) (k : b.grownBy c row) : a.grownBy c row := World.grownBy.trans h k

set_option maxHeartbeats 1000000 in
theorem each_make (B n : Nat) (v fv : Value) (l f : List Int) (g : Nat) (p : Nat) (m : Int) (w : World) (h : IsB w v l) (hf : w.ownsRow B 5 1 fv n (f.map (Value.int .u8))) (hg : w.cell? ⟨g, 0, none⟩ = some fv) (hne : fv.ownBlock ≠ some g)
    (hp : p ≤ 255) (h9 : 9 ≤ n) (hm : m = ((n : Int) - 1) * 8) (hn : n ≤ 140737488355328) :
    Calls Try.prog 80 #[v, .int .i64 p, .int .u64 m, .func (.func 88) #[] #[.pointer (some ⟨g, 0, none⟩)]] w (EachPost B n fv f l m p w) := by
  have hm2 : 64 ≤ m ∧ m ≤ 1125899906842624 := by omega
  have HM := Lib.hid hm
  have HB := Lib.hid h
  have HF := Lib.hid hf
  have HG := Lib.hid hg
  have HN := Lib.hid hne
  have hh := hashF_rng l
  clear h hf hm hg hne
  go_enter Try.func80, Try.ntmps80
  go_wp2_with fail
  refine (hash_any v l _ HB.out).mono ?_
  rintro e w1 ⟨rfl, rfl⟩
  go_wp2_with fail
  refine (rot_any _ _ hh).mono ?_
  rintro e w1 ⟨rfl, rfl⟩
  go_wp2_with fail
  go_loopw [9, 18] (fun x i wr => ∃ k : Nat, k ≤ p ∧ i = .int .i64 k ∧ x = .int .u64 (hi (hashF l) (stepF (hashF l)) k) ∧ Hid (wr.ownsRow B 5 1 fv n ((setAll f l m k).map (Value.int .u8))) ∧ Hid (w.grownBy wr fv.ownBlock)) (fun _ i _ => p - (intOf i).toNat)
  case atStart => exact ⟨0, Nat.zero_le _, rfl, rfl, HF.out, gb_refl _ _⟩
  case round =>
    obtain ⟨k, hk, rfl, rfl, hown, hgr⟩ := hrel
    by_cases hlt : k < p
    · have hi1 := hi_rng (s := stepF (hashF l)) hh k
      have hq0 : 0 ≤ hi (hashF l) (stepF (hashF l)) k % m := Int.emod_nonneg _ (by omega)
      have hq1 : hi (hashF l) (stepF (hashF l)) k % m < m := Int.emod_lt_of_pos _ (by omega)
      go_wp2_with fail
      refine (makeClo B n fv (setAll f l m k) g _ _ wr hown.out (grown_cell hgr.out HG.out HN.out) ?_).mono ?_
      · have := HM.out; omega
      unfold CloPost
      rintro e w1 ⟨rfl, hown1, hg1⟩
      have HO := Lib.hid hown1
      have HG1 := Lib.hid (grown_trans' hgr.out hg1)
      clear hown1 hg1
      go_wp2_with fail
      go_roundw
      case rel => exact ⟨k + 1, by omega, by go_num, rfl, HO.out, HG1.out⟩
      case measure => simp [intOf]; omega
    · have hkp : k = p := by omega
      subst hkp
      go_wp2_with fail
      go_ret
      exact ⟨rfl, hown.out, hgr.out⟩
end Bloom
end Go.Proofs.Ytmojbamloanleaa
