/- sstable: bytes stay bytes; how long a filter is (plain). -/
import Derived.Test.YtmojbamloanleaaSs9
import Derived.Test.YtmojbamloanleaaBloomRMake
set_option linter.unusedVariables false
set_option linter.unusedSimpArgs false
namespace Go.Proofs.Ytmojbamloanleaa
open Go.RowKit
namespace Ss
open Mt Codec
/-- an entry whose key and value are bytes -/
def RngE (x : En) : Prop := Rng x.1 ∧ Rng x.2.2.2
theorem lay_rng {a : List Int} {x : En} (h : RngE x) : Rng (layS a x) := by
  unfold layS
  refine ((((((numN_rng _).append (numN_rng _)).append (numN_rng _)).append (Rng.cons ?_ Rng.nil)).append (numN_rng _)).append (h.1.drop _)).append h.2
  split <;> omega
theorem body_rng : ∀ (bl : List En) (p : List Int × List Int), Rng p.1 → Rng p.2 → (∀ x ∈ bl, RngE x) → Rng (bl.foldl (fun p e => (p.1 ++ layS p.2 e, e.1)) p).1 ∧ Rng (bl.foldl (fun p e => (p.1 ++ layS p.2 e, e.1)) p).2
  | [], p, h1, h2, _ => ⟨h1, h2⟩
  | e :: bl, p, h1, h2, h => body_rng bl (p.1 ++ layS p.2 e, e.1) (h1.append (lay_rng (h e (List.mem_cons_self ..)))) (h e (List.mem_cons_self ..)).1 (fun x hx => h x (List.mem_cons_of_mem _ hx))
theorem bodyF_rng {bl : List En} (h : ∀ x ∈ bl, RngE x) : Rng (bodyF bl).1 ∧ Rng (bodyF bl).2 := body_rng bl ([], []) Rng.nil Rng.nil h
theorem done_rng : ∀ (d : List (List En)) (p : List Int × List Int), Rng p.1 → Rng p.2 → (∀ b ∈ d, ∀ x ∈ b, RngE x) → Rng (d.foldl blkF p).1 ∧ Rng (d.foldl blkF p).2
  | [], p, h1, h2, _ => ⟨h1, h2⟩
  | b :: d, p, h1, h2, h => by
    obtain ⟨k1, k2⟩ := bodyF_rng (h b (List.mem_cons_self ..))
    exact done_rng d (blkF p b) (h1.append (frame_rng (by omega) k1)) ((((h2.append (numN_rng _)).append (numN_rng _)).append (numN_rng _)).append ((numN_rng _).append k2)) (fun c hc => h c (List.mem_cons_of_mem _ hc))
theorem doneF_rng {d : List (List En)} (h : ∀ b ∈ d, ∀ x ∈ b, RngE x) : Rng (doneF d).1 ∧ Rng (doneF d).2 := done_rng d ([], []) Rng.nil Rng.nil h
theorem isEs_rng {w : World} {v : Value} {l : List En} (h : IsEs w v l) : ∀ x ∈ l, RngE x := by
  intro x hx
  obtain ⟨i, hi⟩ := List.mem_iff_getElem?.1 hx
  obtain ⟨ao, cap, h1, h2, h3, h4, h5⟩ := h
  obtain ⟨b, o, cs, k1, k2, k3, k4, kv, vv, -, h6, h7, h8⟩ := h5 i x hi
  exact ⟨h6.rng, h7.rng⟩
theorem bits_u8_rng (op : BinOp) (x y : Int) : 0 ≤ bits op .u8 x y ∧ bits op .u8 x y ≤ 255 := by
  unfold bits
  simp only [IntKind.wrap, IntKind.bits, IntKind.signed]
  simp
  omega
theorem setBit_rng {f : List Int} {p : Int} (h : Rng f) : Rng (Bloom.setBit f p) := by
  unfold Bloom.setBit
  intro y hy
  rcases List.mem_or_eq_of_mem_set hy with h1 | h1
  · exact h y h1
  · rw [h1]; exact bits_u8_rng _ _ _
theorem setAll_rng {f l : List Int} {m : Int} (h : Rng f) : ∀ k, Rng (Bloom.setAll f l m k)
  | 0 => h
  | k + 1 => by
    rw [Bloom.setAll_succ]
    exact setBit_rng (setAll_rng h k)
theorem fill_rng (m : Int) (p : Nat) : ∀ (ls : List (List Int)) (f : List Int), Rng f → Rng (Bloom.fill ls m p f)
  | [], f, h => h
  | l :: ls, f, h => fill_rng m p ls _ (setAll_rng h p)
theorem make_rng {ls : List (List Int)} {q : Int} (hq : 1 ≤ q ∧ q ≤ 30) : Rng (Bloom.makeF ls q) := by
  unfold Bloom.makeF
  refine fill_rng _ _ _ _ ?_
  intro y hy
  rcases List.mem_or_eq_of_mem_set hy with h1 | h1
  · rw [(List.mem_replicate.1 h1).2]; omega
  · rw [h1]; unfold Bloom.probesF; omega
theorem make_len {ls : List (List Int)} {q : Int} (hq : 1 ≤ q ∧ q ≤ 30) (hl : ls.length ≤ 65536) : (Bloom.makeF ls q).length ≤ 300000 := by
  unfold Bloom.makeF
  rw [Bloom.fill_len, List.length_set, List.length_replicate]
  unfold Bloom.wordsF
  have h1 : (ls.length : Int) * q ≤ 65536 * 30 := Int.mul_le_mul (by omega) hq.2 (by omega) (by omega)
  omega
theorem hi_drop (n : Nat) : (hiB n 8).drop 4 = hiB n 4 := rfl
end Ss
end Go.Proofs.Ytmojbamloanleaa
