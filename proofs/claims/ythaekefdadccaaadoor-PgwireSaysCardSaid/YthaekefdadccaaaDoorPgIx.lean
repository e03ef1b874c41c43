/- strings.IndexByte by the shelf's contract, in the abstract. -/
import Derived.Test.YthaekefdadccaaaDoorPmD
import Derived.Test.YthaekefdadccaaaDoorBytesFn
import Derived.Test.YthaekefdadccaaaDoorLays
import Derived.Lib.LazyBuf
import Derived.Shelf.Small.Strs
set_option linter.unusedVariables false
set_option linter.unusedSimpArgs false
namespace Go.Proofs.YthaekefdadccaaaDoor
open Go.RowKit
namespace PM
set_option maxRecDepth 100000 in
theorem pIndexS (l : List Int) (c : Int) (hc : 0 ≤ c ∧ c ≤ 255) : Pure Tryd.prog 48 [.d (.str l), .d (.int .u8 c)] (.d (.int .i64 (idxI l c))) :=
  pure_of_calls Tryd.func48 rfl rfl fun G w vs hm h => by
    unfold RelAs at h
    obtain ⟨v1, vs, rfl, h1, h⟩ := h
    unfold RelAs at h
    obtain ⟨v2, vs, rfl, h2, h⟩ := h
    unfold RelAs at h
    subst h
    obtain ⟨rfl, r1, l1⟩ := h1.str
    obtain ⟨rfl, -⟩ := h2.int
    refine (Any.strings_IndexByte Tryd.lays137 (strOfNums l) c w).mono fun e w' ⟨he, hw⟩ => ?_
    subst hw
    rw [strOfNums_data] at he
    have e1 : c.toNat.toUInt8 = UInt8.ofNat c.toNat := rfl
    rw [e1, idx_map r1 hc] at he
    refine ⟨_, he, .refl _ _, relA_int ?_⟩
    have := idxI_rng l c
    have hml : maxLen = 9223372036854775807 := rfl
    rw [wf_i64]
    simp only [Bool.and_eq_true, decide_eq_true_eq]
    omega
end PM
end Go.Proofs.YthaekefdadccaaaDoor
