/- bloom: the plain law of BloomHolds: what was set stays set. -/
import Derived.Test.YtjhnjnpidaofaaaBloomMakes
namespace Go.Proofs.Ytjhnjnpidaofaaa
open Go.RowKit
namespace Bloom
theorem wrap_u8 (n : Nat) (h : n < 256) : IntKind.u8.wrap (n : Int) = n := by simp [IntKind.wrap, IntKind.bits, IntKind.signed]; omega
theorem and_ne {x c : Int} : bits .and .u8 x c ≠ 0 ↔ (BitVec.ofInt 8 x &&& BitVec.ofInt 8 c) ≠ 0#8 := by
  unfold bits
  simp only
  have hk : IntKind.u8.bits = 8 := rfl
  rw [hk, wrap_u8 _ (BitVec.isLt _)]
  rw [Ne, Ne, ← BitVec.toNat_inj]
  simp
theorem ofInt_or (x z : Int) : BitVec.ofInt 8 (bits .or .u8 x z) = BitVec.ofInt 8 x ||| BitVec.ofInt 8 z := by
  unfold bits
  simp only
  have hk : IntKind.u8.bits = 8 := rfl
  rw [hk, wrap_u8 _ (BitVec.isLt _)]
  generalize BitVec.ofInt 8 x ||| BitVec.ofInt 8 z = a
  simp
theorem or_ne {a b c : BitVec 8} (h : a &&& c ≠ 0#8) : (a ||| b) &&& c ≠ 0#8 := by
  intro h2
  apply h
  have : (a ||| b) &&& c = (a &&& c) ||| (b &&& c) := by
    ext i; simp [Bool.and_or_distrib_right]
  rw [this] at h2
  exact (BitVec.or_eq_zero_iff.1 h2).1
theorem or_ne' {a c : BitVec 8} (h : c ≠ 0#8) : (a ||| c) &&& c ≠ 0#8 := by
  have : (a ||| c) &&& c = c := by ext i hi; simp only [BitVec.getElem_and, BitVec.getElem_or]; cases a[i] <;> cases c[i] <;> rfl
  rw [this]; exact h
/-- what is set in x is set in y -/
def Sub8 (x y : Int) : Prop := ∀ c, bits .and .u8 x c ≠ 0 → bits .and .u8 y c ≠ 0
theorem sub_or (x z : Int) : Sub8 x (bits .or .u8 x z) := fun c h => by
  rw [and_ne] at h ⊢
  rw [ofInt_or]
  exact or_ne h
def SubL (F G : List Int) : Prop := G.length = F.length ∧ (∀ i, Sub8 (F.getD i 0) (G.getD i 0)) ∧ G.getD 0 0 = F.getD 0 0
theorem SubL.refl (F : List Int) : SubL F F := ⟨rfl, fun _ _ h => h, rfl⟩
theorem SubL.trans {F G H : List Int} (h : SubL F G) (k : SubL G H) : SubL F H := ⟨k.1.trans h.1, fun i c q => k.2.1 i c (h.2.1 i c q), k.2.2.trans h.2.2⟩
theorem SubL.set {F : List Int} {i : Nat} (z : Int) (h0 : 0 < i) : SubL F (F.set i (bits .or .u8 (F.getD i 0) z)) := by
  refine ⟨by simp, fun j c h => ?_, ?_⟩
  · by_cases e : i = j
    · subst e
      rcases Nat.lt_or_ge i F.length with hl | hl
      · have : (F.set i (bits .or .u8 (F.getD i 0) z)).getD i 0 = bits .or .u8 (F.getD i 0) z := by simp [List.getD, hl]
        rw [this]; exact sub_or _ _ c h
      · have : (F.set i (bits .or .u8 (F.getD i 0) z)).getD i 0 = F.getD i 0 := by simp [List.getD, hl]
        rw [this]; exact h
    · have : (F.set i (bits .or .u8 (F.getD i 0) z)).getD j 0 = F.getD j 0 := by simp [List.getD, List.getElem?_set_ne e]
      rw [this]; exact h
  · simp [List.getD, List.getElem?_set_ne (show i ≠ 0 by omega)]
theorem isSet_sub {F G : List Int} (h : SubL F G) {n : Int} (k : isSet F n = true) : isSet G n = true := by
  unfold isSet at k ⊢
  rw [bne_iff_ne] at k ⊢
  exact h.2.1 _ _ k
theorem setBit_sub (f : List Int) (n : Int) : SubL f (setBit f n) := SubL.set _ (by unfold atF; omega)
theorem setAll_sub (f l : List Int) (m : Int) : ∀ k, SubL f (setAll f l m k)
  | 0 => SubL.refl f
  | k + 1 => (setAll_sub f l m k).trans (setBit_sub _ _)
theorem fill_sub (m : Int) (p : Nat) : ∀ (ls : List (List Int)) (f : List Int), SubL f (fill ls m p f)
  | [], f => SubL.refl f
  | l :: ls, f => (setAll_sub f l m p).trans (fill_sub m p ls _)
theorem bitF_ne (n : Int) : BitVec.ofInt 8 (bitF n) ≠ 0#8 := by
  unfold bitF
  have h : (n % 8).toNat < 8 := by omega
  generalize (n % 8).toNat = r at h
  match r, h with
  | 0, _ => decide
  | 1, _ => decide
  | 2, _ => decide
  | 3, _ => decide
  | 4, _ => decide
  | 5, _ => decide
  | 6, _ => decide
  | 7, _ => decide
theorem setBit_has {f : List Int} {n : Int} (h : atF n < f.length) : isSet (setBit f n) n = true := by
  unfold isSet setBit
  rw [bne_iff_ne, and_ne]
  have : (f.set (atF n) (bits .or .u8 (f.getD (atF n) 0) (bitF n))).getD (atF n) 0 = bits .or .u8 (f.getD (atF n) 0) (bitF n) := by simp [List.getD, h]
  rw [this, ofInt_or]
  exact or_ne' (bitF_ne n)
theorem setAll_has {f l : List Int} {m : Int} (hat : ∀ i, atF (num l m i) < f.length) : ∀ (k i : Nat), i < k → isSet (setAll f l m k) (num l m i) = true
  | k + 1, i, h => by
    rcases Nat.lt_or_ge i k with hi | hi
    · exact isSet_sub (setBit_sub _ _) (setAll_has hat k i hi)
    · have : i = k := by omega
      subst this
      exact setBit_has (by rw [setAll_len]; exact hat i)
theorem fill_has {m : Int} {p : Nat} {l : List Int} : ∀ (ls : List (List Int)) (f : List Int), (∀ i, atF (num l m i) < f.length) → l ∈ ls → ∀ i, i < p → isSet (fill ls m p f) (num l m i) = true
  | x :: ls, f, hat, h, i, hi => by
    show isSet (fill ls m p (setAll f x m p)) _ = true
    cases List.mem_cons.1 h with
    | inl e => subst e; exact isSet_sub (fill_sub m p ls _) (setAll_has hat p i hi)
    | inr e => exact fill_has ls _ (fun j => by rw [setAll_len]; exact hat j) e i hi
theorem allB_true {t : Nat → Bool} : ∀ n, (∀ i, i < n → t i = true) → allB t n = true
  | 0, _ => rfl
  | n + 1, h => by simp [allB, allB_true n (fun i hi => h i (by omega)), h n (by omega)]
/-- a filter with more bits set says of each key that it may be there -/
theorem holds_law {ls : List (List Int)} {q : Int} (hok : okArgs ls q) {G : List Int} (h : SubL (makeF ls q) G) {l : List Int} (hl : l ∈ ls) : mayF G l = true := by
  have hlen : G.length = 1 + 8 * (wordsF ls.length q).toNat := by rw [h.1, makeF_len]
  have hW : 1 ≤ wordsF ls.length q := by unfold wordsF; omega
  have hp : 1 ≤ probesF q ∧ probesF q ≤ 20 := by obtain ⟨⟨k1, k2⟩, _⟩ := hok; unfold probesF; omega
  have h0 : G.getD 0 0 = probesF q := by
    rw [h.2.2]
    unfold makeF
    rw [(fill_sub _ _ ls _).2.2]
    rw [List.getD_eq_getElem?_getD, List.getElem?_set_self (by simp; omega)]
    rfl
  have hm : ((G.length : Int) - 1) * 8 = wordsF ls.length q * 64 := by rw [hlen]; push_cast; omega
  unfold mayF
  split
  · rfl
  · rw [h0, hm]
    refine allB_true _ fun i hi => isSet_sub h ?_
    unfold makeF
    refine fill_has ls _ (fun j => ?_) hl i hi
    have hn := num_rng l (m := wordsF ls.length q * 64) (by omega) j
    unfold atF
    simp only [List.length_set, List.length_replicate]
    omega
end Bloom
end Go.Proofs.Ytjhnjnpidaofaaa
