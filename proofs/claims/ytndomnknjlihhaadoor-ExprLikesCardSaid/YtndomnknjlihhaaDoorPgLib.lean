/- pgwire: functions of Go's library, by the shelf's contracts, in the abstract. -/
import Derived.Test.YtndomnknjlihhaaDoorPmD
import Derived.Test.YtndomnknjlihhaaDoorBytesFn
import Derived.Test.YtndomnknjlihhaaDoorLays
import Derived.Lib.LazyBuf
set_option linter.unusedVariables false
set_option linter.unusedSimpArgs false
namespace Go.Proofs.YtndomnknjlihhaaDoor
open Go.RowKit
namespace PM
def u8s (l : List Int) : List UInt8 := l.map fun n => UInt8.ofNat n.toNat
def nums (l : List UInt8) : List Int := l.map fun b => (b.toNat : Int)
theorem nums_rng (l : List UInt8) : Rng (nums l) := fun x hx => by
  obtain ⟨b, -, rfl⟩ := List.mem_map.1 hx
  have := b.toNat_lt
  omega
theorem nums_u8s {l : List Int} (h : Rng l) : nums (u8s l) = l := by
  induction l with
  | nil => rfl
  | cons x l ih =>
    have h0 := h x (by simp)
    have := toNat_ofNat8 h0
    show ((UInt8.ofNat x.toNat).toNat : Int) :: nums (u8s l) = x :: l
    rw [ih (fun y hy => h y (List.mem_cons_of_mem _ hy))]
    congr 1
theorem strOfNums_u8s (l : List Int) : strOfNums l = ⟨(u8s l).toArray⟩ := rfl
theorem str_nums (l : List UInt8) : strOfNums (nums l) = ⟨l.toArray⟩ := Lib.Lz.strOfNums_map l
section
variable {G : Gh} {m : Mem} {w : World}
theorem relA_strN {l : List UInt8} (h : l.length ≤ maxLen) : RelA G m w (.d (.str (nums l))) (.string ⟨l.toArray⟩) := by
  rw [← str_nums]
  exact relA_str (nums_rng l) (by simpa [nums] using h)
end
def trimN (l cs : List Int) : List Int := nums (Lib.trimS (u8s l) (u8s cs))
theorem trimS_len (l cs : List UInt8) : (Lib.trimS l cs).length ≤ l.length := by
  unfold Lib.trimS Lib.trimLeftS Lib.trimRightS
  have h1 := (List.dropWhile_suffix (fun b => cs.contains b) (l := (l.reverse.dropWhile (cs.contains ·)).reverse)).length_le
  have h2 := (List.dropWhile_suffix (fun b => cs.contains b) (l := l.reverse)).length_le
  simp at h1 h2 ⊢
  omega
theorem dropWhile_nil' {α : Type} (p : α → Bool) : ∀ l : List α, l.dropWhile p = [] ↔ ∀ x ∈ l, p x = true
  | [] => by simp
  | x :: l => by
    rw [List.dropWhile_cons]
    split
    · rename_i h; rw [dropWhile_nil' p l]; simp [h]
    · rename_i h; simp [h]
theorem trimN_nil {l cs : List Int} (hl : Rng l) (hc : Rng cs) : trimN l cs = [] ↔ ∀ x ∈ l, x ∈ cs := by
  have key : ∀ m : List UInt8, Lib.trimS m (u8s cs) = [] ↔ ∀ x ∈ m, (u8s cs).contains x = true := fun m => by
    unfold Lib.trimS Lib.trimLeftS Lib.trimRightS
    rw [dropWhile_nil']
    constructor
    · intro h
      by_cases hz : m.reverse.dropWhile (fun b => (u8s cs).contains b) = []
      · rw [dropWhile_nil'] at hz
        exact fun x hx => hz x (List.mem_reverse.2 hx)
      · exfalso
        have h1 := List.head_dropWhile_not (fun b => (u8s cs).contains b) hz
        have h2 := h _ (List.mem_reverse.2 (List.head_mem hz))
        rw [h2] at h1
        cases h1
    · intro h x hx
      rw [List.mem_reverse] at hx
      exact h x (List.mem_reverse.1 ((List.dropWhile_sublist _).mem hx))
  have e : trimN l cs = [] ↔ Lib.trimS (u8s l) (u8s cs) = [] := by unfold trimN nums; rw [List.map_eq_nil_iff]
  rw [e, key]
  constructor
  · intro h x hx
    have h1 := h _ (List.mem_map.2 ⟨x, hx, rfl⟩)
    rw [List.contains_iff_mem] at h1
    obtain ⟨y, hy, hxy⟩ := List.mem_map.1 h1
    rw [ofNat8_inj (hc y hy) (hl x hx)] at hxy
    rw [← hxy]; exact hy
  · intro h x hx
    obtain ⟨y, hy, rfl⟩ := List.mem_map.1 hx
    rw [List.contains_iff_mem]
    exact List.mem_map.2 ⟨y, h y hy, rfl⟩
set_option maxRecDepth 100000 in
theorem pTrim (l cs : List Int) (hc : cs.length < 4294967281) (ha : ∀ x ∈ cs, 0 ≤ x ∧ x < 128) : Pure Tryd.prog 25 [.d (.str l), .d (.str cs)] (.d (.str (trimN l cs))) :=
  pure_of_calls Tryd.func25 rfl rfl fun G w vs hm h => by
    unfold RelAs at h
    obtain ⟨v1, vs, rfl, h1, h⟩ := h
    unfold RelAs at h
    obtain ⟨v2, vs, rfl, h2, h⟩ := h
    unfold RelAs at h
    subst h
    obtain ⟨rfl, r1, l1⟩ := h1.str
    obtain ⟨rfl, r2, l2⟩ := h2.str
    have hml : maxLen = 9223372036854775807 := rfl
    have hk := Any.strings_Trim_laid Tryd.lays160 (by kernel_rfl) (strOfNums l) (strOfNums cs) w (by rw [strOfNums_size]; omega) (by rw [strOfNums_size]; exact hc) (fun j b hb => by
      rw [strOfNums_data, List.getElem?_map, Option.map_eq_some_iff] at hb
      obtain ⟨x, hx, rfl⟩ := hb
      have h3 := ha x (List.mem_of_getElem? hx)
      have := toNat_ofNat8 (x := x) ⟨h3.1, by omega⟩
      omega)
    refine hk.mono fun e w' ⟨he, hw⟩ => ⟨_, he, hw, ?_⟩
    have := trimS_len (u8s l) (u8s cs)
    exact relA_strN (by have e : (u8s l).length = l.length := List.length_map ..; show (Lib.trimS (u8s l) (u8s cs)).length ≤ maxLen; omega)
def trimPreN (l p : List Int) : List Int := nums (Lib.trimPrefix (u8s l) (u8s p))
set_option maxRecDepth 100000 in
theorem pIndexS (l : List Int) (c : Int) (hc : 0 ≤ c ∧ c ≤ 255) : Pure Tryd.prog 46 [.d (.str l), .d (.int .u8 c)] (.d (.int .i64 (idxI l c))) :=
  pure_of_calls Tryd.func46 rfl rfl fun G w vs hm h => by
    unfold RelAs at h
    obtain ⟨v1, vs, rfl, h1, h⟩ := h
    unfold RelAs at h
    obtain ⟨v2, vs, rfl, h2, h⟩ := h
    unfold RelAs at h
    subst h
    obtain ⟨rfl, r1, l1⟩ := h1.str
    obtain ⟨rfl, -⟩ := h2.int
    refine (Any.strings_IndexByte Tryd.lays137 (strOfNums l) c w).mono fun e w' ⟨he, hw⟩ => ?_
    subst hw
    rw [strOfNums_data] at he
    have e1 : c.toNat.toUInt8 = UInt8.ofNat c.toNat := rfl
    rw [e1, idx_map r1 hc] at he
    refine ⟨_, he, .refl _ _, relA_int ?_⟩
    have := idxI_rng l c
    have hml : maxLen = 9223372036854775807 := rfl
    rw [wf_i64]
    simp only [Bool.and_eq_true, decide_eq_true_eq]
    omega
end PM
end Go.Proofs.YtndomnknjlihhaaDoor
