/- PM: what came in, read by its shape (Read), as data. No program in sight. -/
import Derived.Test.YtfkemeamimcnjaaDoorPmD
import Derived.Test.YtfkemeamimcnjaaDoorRead
import Derived.Lib.LazyBuf
set_option linter.unusedVariables false
set_option linter.unusedSimpArgs false
namespace Go.Proofs.YtfkemeamimcnjaaDoor
open Go.RowKit
namespace PM
/-- the cells as data -/
def dvT : (t : Ty) → t.D → List DV
  | .int k, n => [.int k n]
  | .bool, b => [.bool b]
  | .str, s => [.str (s.data.toList.map fun b => (b.toNat : Int))]
  | .st f, d => dvT f d
  | .fnil, _ => []
  | .fcons _ a r, d => dvT a d.1 ++ dvT r d.2
  | .sl _ e, l => [.sl e.size (List.map (fun x : e.D => dvT e x) l)]
  | .arr _ e, l => (List.map (fun x : e.D => dvT e x) l).flatten
/-- fields lie one behind the other, the first at i; no array -/
def goodT : Ty → Nat → Bool
  | .int _, i => decide (i = 0)
  | .bool, i => decide (i = 0)
  | .str, i => decide (i = 0)
  | .st f, i => decide (i = 0) && goodT f 0
  | .fnil, _ => true
  | .fcons off a r, i => decide (off = i) && (goodT a 0 && goodT r (i + a.size))
  | .sl _ e, i => decide (i = 0) && goodT e 0
  | .arr _ _, _ => false
theorem dvT_len : ∀ (t : Ty) (i : Nat) (d : t.D), goodT t i = true → (dvT t d).length + i = max i t.size
  | .int _, i, d, h => by simp [goodT] at h; subst h; rfl
  | .bool, i, d, h => by simp [goodT] at h; subst h; rfl
  | .str, i, d, h => by simp [goodT] at h; subst h; rfl
  | .st f, i, d, h => by
    simp only [goodT, Bool.and_eq_true, decide_eq_true_eq] at h
    obtain ⟨rfl, h⟩ := h
    exact dvT_len f 0 d h
  | .fnil, i, d, _ => by simp [dvT, Ty.size]
  | .fcons off a r, i, d, h => by
    simp only [goodT, Bool.and_eq_true, decide_eq_true_eq] at h
    obtain ⟨rfl, h1, h2⟩ := h
    have e1 := dvT_len a 0 d.1 h1
    have e2 := dvT_len r (off + a.size) d.2 h2
    have e3 : (dvT (.fcons off a r) d).length = (dvT a d.1).length + (dvT r d.2).length := by show (dvT a d.1 ++ dvT r d.2).length = _; rw [List.length_append]
    have e4 : Ty.size (.fcons off a r) = max (off + a.size) r.size := rfl
    rw [e3, e4]
    omega
  | .sl _ e, i, d, h => by
    simp only [goodT, Bool.and_eq_true, decide_eq_true_eq] at h
    obtain ⟨rfl, -⟩ := h
    rfl
  | .arr _ _, _, _, h => by simp [goodT] at h
theorem bytes_str (s : ByteArray) : strOfNums (s.data.toList.map fun b => (b.toNat : Int)) = s := by
  exact Lib.Lz.strOfNums_map s.data.toList
theorem relD_str {N : No} {w : World} (s : ByteArray) (h : s.size ≤ maxLen) : RelD N w (.str (s.data.toList.map fun b => (b.toNat : Int))) (.string s) := by
  unfold RelD
  refine ⟨by rw [bytes_str], fun x hx => ?_, by rw [List.length_map]; exact h⟩
  obtain ⟨b, -, rfl⟩ := List.mem_map.1 hx
  have := b.toNat_lt
  omega
theorem rd_dv {w : World} : ∀ (t : Ty) (i : Nat) (cs : List Value) (d : t.D), goodT t i = true → Rd w t cs d →
    ∀ (j : Nat) x, (dvT t d)[j]? = some x → ∃ u, (cs.drop i)[j]? = some u ∧ RelD (fun _ _ => False) w x u
  | .int k, i, cs, d, hg, h, j, x, hx => by
    simp [goodT] at hg; subst hg
    obtain ⟨rfl, hw⟩ := Rd.int' h
    unfold dvT at hx
    cases j with
    | succ j => simp at hx
    | zero => simp at hx; subst hx; exact ⟨_, rfl, by unfold RelD; exact ⟨rfl, hw⟩⟩
  | .bool, i, cs, d, hg, h, j, x, hx => by
    simp [goodT] at hg; subst hg
    have := Rd.bool' h
    subst this
    unfold dvT at hx
    cases j with
    | succ j => simp at hx
    | zero => simp at hx; subst hx; exact ⟨_, rfl, by unfold RelD; rfl⟩
  | .str, i, cs, d, hg, h, j, x, hx => by
    simp [goodT] at hg; subst hg
    obtain ⟨rfl, hs⟩ := Rd.str' h
    unfold dvT at hx
    cases j with
    | succ j => simp at hx
    | zero => simp at hx; subst hx; exact ⟨_, rfl, relD_str _ hs⟩
  | .st f, i, cs, d, hg, h, j, x, hx => by
    simp only [goodT, Bool.and_eq_true, decide_eq_true_eq] at hg
    obtain ⟨rfl, hg⟩ := hg
    exact rd_dv f 0 cs d hg (Rd.st' h).2 j x hx
  | .fnil, i, cs, d, _, _, j, x, hx => by simp [dvT] at hx
  | .fcons off a r, i, cs, d, hg, h, j, x, hx => by
    simp only [goodT, Bool.and_eq_true, decide_eq_true_eq] at hg
    obtain ⟨rfl, h1, h2⟩ := hg
    obtain ⟨k1, k2⟩ := Rd.fc h
    have e1 : (dvT a d.1).length = a.size := by have := dvT_len a 0 d.1 h1; omega
    have hx' : (dvT a d.1 ++ dvT r d.2)[j]? = some x := hx
    by_cases hj : j < a.size
    · rw [List.getElem?_append_left (by omega)] at hx'
      obtain ⟨u, hu, hr⟩ := rd_dv a 0 _ d.1 h1 k1 j x hx'
      rw [List.drop_zero, List.getElem?_take, if_pos hj] at hu
      exact ⟨u, hu, hr⟩
    · rw [List.getElem?_append_right (by omega)] at hx'
      obtain ⟨u, hu, hr⟩ := rd_dv r (off + a.size) cs d.2 h2 k2 _ x hx'
      refine ⟨u, ?_, hr⟩
      rw [List.getElem?_drop] at hu ⊢
      rw [← hu]
      congr 1
      omega
  | .sl b e, i, cs, l, hg, h, j, x, hx => by
    simp only [goodT, Bool.and_eq_true, decide_eq_true_eq] at hg
    obtain ⟨rfl, hg⟩ := hg
    obtain ⟨ao, cap, rfl, q1, q2, q3, q4⟩ := Rd.sl' h
    unfold dvT at hx
    cases j with
    | succ j => simp at hx
    | zero =>
      simp at hx
      subst hx
      refine ⟨_, rfl, relD_plain rfl (relL (R := fun w cs x => Rd w e cs x) (en := fun x => dvT e x) ⟨ao, cap, rfl, q1, q2, fun hn => ⟨List.eq_nil_of_length_eq_zero (q3 hn).1, (q3 hn).2⟩, q4⟩ fun cs' y hy => ?_)⟩
      refine ⟨by have := dvT_len e 0 y hg; omega, fun i dd hd => ?_⟩
      obtain ⟨u, hu, hr⟩ := rd_dv e 0 cs' y hg hy i dd hd
      exact ⟨u, by rwa [List.drop_zero] at hu, hr⟩
  | .arr _ _, _, _, _, hg, _, _, _, _ => by simp [goodT] at hg
/-- a struct that came in -/
theorem rd_agg {w : World} {f : Ty} {cs : List Value} {d : f.D} (hg : goodT f 0 = true) (h : Rd w (.st f) cs d) : RelA G0 nom w (.agg ((dvT f d).map AV.d)) (.agg cs.toArray) := by
  obtain ⟨hl, h1⟩ := Rd.st' h
  have hlen : (dvT f d).length = cs.length := by have := dvT_len f 0 d hg; omega
  have hp : ∀ (j : Nat) x, (dvT f d)[j]? = some x → ∃ u, cs[j]? = some u ∧ RelD (fun _ _ => False) w x u := fun j x hx => by
    obtain ⟨u, hu, hr⟩ := rd_dv f 0 cs d hg h1 j x hx
    exact ⟨u, by rwa [List.drop_zero] at hu, hr⟩
  unfold RelA
  refine ⟨cs, rfl, (relAs_iff _ _).2 ⟨by rw [List.length_map]; exact hlen, fun i x v hx hv => ?_⟩, fun u hu => ?_⟩
  · rw [List.getElem?_map, Option.map_eq_some_iff] at hx
    obtain ⟨y, hy, rfl⟩ := hx
    obtain ⟨u, hu, hr⟩ := hp i y hy
    rw [hv] at hu
    cases hu
    exact relA_plain hr
  · obtain ⟨i, hi⟩ := List.getElem?_of_mem hu
    have hil : i < (dvT f d).length := by rw [hlen]; exact (List.getElem?_eq_some_iff.1 hi).1
    obtain ⟨u', hu', hr⟩ := hp i _ (List.getElem?_eq_getElem hil)
    rw [hi] at hu'
    cases hu'
    exact hr.one
theorem rd_agg' {w : World} {t f : Ty} {cs : List Value} {d : t.D} (ht : t = .st f) (hg : goodT f 0 = true) (h : Rd w t cs d) : RelA G0 nom w (.agg ((dvT t d).map AV.d)) (.agg cs.toArray) := by
  subst ht
  exact rd_agg (f := f) (d := d) hg h
end PM
end Go.Proofs.YtfkemeamimcnjaaDoor
