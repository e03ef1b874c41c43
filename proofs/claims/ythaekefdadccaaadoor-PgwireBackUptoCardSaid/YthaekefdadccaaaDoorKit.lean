/- The kit: worlds, frames, bytes, rows of the call's own, appends, copies, slices. No program in sight. -/
import Derived.WalkKit
import Derived.WalkSpells
import Derived.WalkLawsBesides
import Derived.Deep.RegionWith
import Derived.Deep.Draws
import Derived.StillTailTactics
import Derived.Deep.QuietTactic
import Derived.BigQuiet
import Derived.Lib.Hide
import Derived.Laws.BytesArg
import Derived.Lib.SlBytesConst
import Derived.Maps.AppendAt
import Derived.Lib.BytesEntry
import Derived.ArgAppend
import Derived.Laws.CopyOwn
import Derived.Deep.RegionHeld3
namespace Go.Proofs.YthaekefdadccaaaDoor
open Go.RowKit

/-- returns V; what was there stays as it was. -/
def Ret (V : Value) (w : World) (e : Ending) (w' : World) : Prop := e = .returned V ∧ Below w.heap.size w w'
theorem lt_step1 {n m : Nat} (h : n < m) : n < m + 1 := by omega
theorem le_step1 {n m : Nat} (h : n < m) : n ≤ m + 1 := by omega
theorem lt_step2 {n m : Nat} (h : n < m) : n < m + 1 + 1 := by omega
theorem le_step2 {n m : Nat} (h : n < m) : n ≤ m + 1 + 1 := by omega
theorem lt_step3 {n m : Nat} (h : n < m) : n < m + 1 + 1 + 1 := by omega
theorem le_step3 {n m : Nat} (h : n < m) : n ≤ m + 1 + 1 + 1 := by omega
theorem lt_step4 {n m : Nat} (h : n < m) : n < m + 1 + 1 + 1 + 1 := by omega
theorem le_step4 {n m : Nat} (h : n < m) : n ≤ m + 1 + 1 + 1 + 1 := by omega
theorem lt_step5 {n m : Nat} (h : n < m) : n < m + 1 + 1 + 1 + 1 + 1 := by omega
theorem le_step5 {n m : Nat} (h : n < m) : n ≤ m + 1 + 1 + 1 + 1 + 1 := by omega
theorem lt_step6 {n m : Nat} (h : n < m) : n < m + 1 + 1 + 1 + 1 + 1 + 1 := by omega
theorem le_step6 {n m : Nat} (h : n < m) : n ≤ m + 1 + 1 + 1 + 1 + 1 + 1 := by omega
theorem lt_step7 {n m : Nat} (h : n < m) : n < m + 1 + 1 + 1 + 1 + 1 + 1 + 1 := by omega
theorem le_step7 {n m : Nat} (h : n < m) : n ≤ m + 1 + 1 + 1 + 1 + 1 + 1 + 1 := by omega
theorem lt_step8 {n m : Nat} (h : n < m) : n < m + 1 + 1 + 1 + 1 + 1 + 1 + 1 + 1 := by omega
theorem le_step8 {n m : Nat} (h : n < m) : n ≤ m + 1 + 1 + 1 + 1 + 1 + 1 + 1 + 1 := by omega
theorem lt_step9 {n m : Nat} (h : n < m) : n < m + 1 + 1 + 1 + 1 + 1 + 1 + 1 + 1 + 1 := by omega
theorem le_step9 {n m : Nat} (h : n < m) : n ≤ m + 1 + 1 + 1 + 1 + 1 + 1 + 1 + 1 + 1 := by omega
theorem lt_step10 {n m : Nat} (h : n < m) : n < m + 1 + 1 + 1 + 1 + 1 + 1 + 1 + 1 + 1 + 1 := by omega
theorem le_step10 {n m : Nat} (h : n < m) : n ≤ m + 1 + 1 + 1 + 1 + 1 + 1 + 1 + 1 + 1 + 1 := by omega
theorem lt_step11 {n m : Nat} (h : n < m) : n < m + 1 + 1 + 1 + 1 + 1 + 1 + 1 + 1 + 1 + 1 + 1 := by omega
theorem le_step11 {n m : Nat} (h : n < m) : n ≤ m + 1 + 1 + 1 + 1 + 1 + 1 + 1 + 1 + 1 + 1 + 1 := by omega
theorem lt_step12 {n m : Nat} (h : n < m) : n < m + 1 + 1 + 1 + 1 + 1 + 1 + 1 + 1 + 1 + 1 + 1 + 1 := by omega
theorem le_step12 {n m : Nat} (h : n < m) : n ≤ m + 1 + 1 + 1 + 1 + 1 + 1 + 1 + 1 + 1 + 1 + 1 + 1 := by omega
theorem lt_step13 {n m : Nat} (h : n < m) : n < m + 1 + 1 + 1 + 1 + 1 + 1 + 1 + 1 + 1 + 1 + 1 + 1 + 1 := by omega
theorem le_step13 {n m : Nat} (h : n < m) : n ≤ m + 1 + 1 + 1 + 1 + 1 + 1 + 1 + 1 + 1 + 1 + 1 + 1 + 1 := by omega
theorem lt_step14 {n m : Nat} (h : n < m) : n < m + 1 + 1 + 1 + 1 + 1 + 1 + 1 + 1 + 1 + 1 + 1 + 1 + 1 + 1 := by omega
theorem le_step14 {n m : Nat} (h : n < m) : n ≤ m + 1 + 1 + 1 + 1 + 1 + 1 + 1 + 1 + 1 + 1 + 1 + 1 + 1 + 1 := by omega
theorem lt_step15 {n m : Nat} (h : n < m) : n < m + 1 + 1 + 1 + 1 + 1 + 1 + 1 + 1 + 1 + 1 + 1 + 1 + 1 + 1 + 1 := by omega
theorem le_step15 {n m : Nat} (h : n < m) : n ≤ m + 1 + 1 + 1 + 1 + 1 + 1 + 1 + 1 + 1 + 1 + 1 + 1 + 1 + 1 + 1 := by omega
theorem lt_step16 {n m : Nat} (h : n < m) : n < m + 1 + 1 + 1 + 1 + 1 + 1 + 1 + 1 + 1 + 1 + 1 + 1 + 1 + 1 + 1 + 1 := by omega
theorem le_step16 {n m : Nat} (h : n < m) : n ≤ m + 1 + 1 + 1 + 1 + 1 + 1 + 1 + 1 + 1 + 1 + 1 + 1 + 1 + 1 + 1 + 1 := by omega
theorem lt_step17 {n m : Nat} (h : n < m) : n < m + 1 + 1 + 1 + 1 + 1 + 1 + 1 + 1 + 1 + 1 + 1 + 1 + 1 + 1 + 1 + 1 + 1 := by omega
theorem le_step17 {n m : Nat} (h : n < m) : n ≤ m + 1 + 1 + 1 + 1 + 1 + 1 + 1 + 1 + 1 + 1 + 1 + 1 + 1 + 1 + 1 + 1 + 1 := by omega
theorem lt_step18 {n m : Nat} (h : n < m) : n < m + 1 + 1 + 1 + 1 + 1 + 1 + 1 + 1 + 1 + 1 + 1 + 1 + 1 + 1 + 1 + 1 + 1 + 1 := by omega
theorem le_step18 {n m : Nat} (h : n < m) : n ≤ m + 1 + 1 + 1 + 1 + 1 + 1 + 1 + 1 + 1 + 1 + 1 + 1 + 1 + 1 + 1 + 1 + 1 + 1 := by omega
theorem lt_step19 {n m : Nat} (h : n < m) : n < m + 1 + 1 + 1 + 1 + 1 + 1 + 1 + 1 + 1 + 1 + 1 + 1 + 1 + 1 + 1 + 1 + 1 + 1 + 1 := by omega
theorem le_step19 {n m : Nat} (h : n < m) : n ≤ m + 1 + 1 + 1 + 1 + 1 + 1 + 1 + 1 + 1 + 1 + 1 + 1 + 1 + 1 + 1 + 1 + 1 + 1 + 1 := by omega
theorem lt_step20 {n m : Nat} (h : n < m) : n < m + 1 + 1 + 1 + 1 + 1 + 1 + 1 + 1 + 1 + 1 + 1 + 1 + 1 + 1 + 1 + 1 + 1 + 1 + 1 + 1 := by omega
theorem le_step20 {n m : Nat} (h : n < m) : n ≤ m + 1 + 1 + 1 + 1 + 1 + 1 + 1 + 1 + 1 + 1 + 1 + 1 + 1 + 1 + 1 + 1 + 1 + 1 + 1 + 1 := by omega
theorem lt_step21 {n m : Nat} (h : n < m) : n < m + 1 + 1 + 1 + 1 + 1 + 1 + 1 + 1 + 1 + 1 + 1 + 1 + 1 + 1 + 1 + 1 + 1 + 1 + 1 + 1 + 1 := by omega
theorem le_step21 {n m : Nat} (h : n < m) : n ≤ m + 1 + 1 + 1 + 1 + 1 + 1 + 1 + 1 + 1 + 1 + 1 + 1 + 1 + 1 + 1 + 1 + 1 + 1 + 1 + 1 + 1 := by omega
theorem lt_step22 {n m : Nat} (h : n < m) : n < m + 1 + 1 + 1 + 1 + 1 + 1 + 1 + 1 + 1 + 1 + 1 + 1 + 1 + 1 + 1 + 1 + 1 + 1 + 1 + 1 + 1 + 1 := by omega
theorem le_step22 {n m : Nat} (h : n < m) : n ≤ m + 1 + 1 + 1 + 1 + 1 + 1 + 1 + 1 + 1 + 1 + 1 + 1 + 1 + 1 + 1 + 1 + 1 + 1 + 1 + 1 + 1 + 1 := by omega
theorem lt_step23 {n m : Nat} (h : n < m) : n < m + 1 + 1 + 1 + 1 + 1 + 1 + 1 + 1 + 1 + 1 + 1 + 1 + 1 + 1 + 1 + 1 + 1 + 1 + 1 + 1 + 1 + 1 + 1 := by omega
theorem le_step23 {n m : Nat} (h : n < m) : n ≤ m + 1 + 1 + 1 + 1 + 1 + 1 + 1 + 1 + 1 + 1 + 1 + 1 + 1 + 1 + 1 + 1 + 1 + 1 + 1 + 1 + 1 + 1 + 1 := by omega
theorem lt_step24 {n m : Nat} (h : n < m) : n < m + 1 + 1 + 1 + 1 + 1 + 1 + 1 + 1 + 1 + 1 + 1 + 1 + 1 + 1 + 1 + 1 + 1 + 1 + 1 + 1 + 1 + 1 + 1 + 1 := by omega
theorem le_step24 {n m : Nat} (h : n < m) : n ≤ m + 1 + 1 + 1 + 1 + 1 + 1 + 1 + 1 + 1 + 1 + 1 + 1 + 1 + 1 + 1 + 1 + 1 + 1 + 1 + 1 + 1 + 1 + 1 + 1 := by omega
theorem le_of_step {n m : Nat} (h : n < m) : n ≤ m := by omega
attribute [go_sem] lt_step1 le_step1 lt_step2 le_step2 lt_step3 le_step3 lt_step4 le_step4 lt_step5 le_step5 lt_step6 le_step6 lt_step7 le_step7 lt_step8 le_step8 lt_step9 le_step9 lt_step10 le_step10 lt_step11 le_step11 lt_step12 le_step12 lt_step13 le_step13 lt_step14 le_step14 lt_step15 le_step15 lt_step16 le_step16 lt_step17 le_step17 lt_step18 le_step18 lt_step19 le_step19 lt_step20 le_step20 lt_step21 le_step21 lt_step22 le_step22 lt_step23 le_step23 lt_step24 le_step24 le_of_step
end Go.Proofs.YthaekefdadccaaaDoor
namespace Go.Proofs.YthaekefdadccaaaDoor
open Go.RowKit
end Go.Proofs.YthaekefdadccaaaDoor
namespace Go.Proofs.YthaekefdadccaaaDoor
open Go.RowKit

/-- each fits a byte -/
def Rng (l : List Int) : Prop := ∀ x ∈ l, 0 ≤ x ∧ x ≤ 255
theorem Rng.nil : Rng [] := fun _ h => by cases h
theorem Rng.cons {x : Int} {l : List Int} (hx : 0 ≤ x ∧ x ≤ 255) (h : Rng l) : Rng (x :: l) := fun y hy => by
  cases List.mem_cons.1 hy with
  | inl e => subst e; exact hx
  | inr e => exact h y e
theorem Rng.append {l m : List Int} (h : Rng l) (k : Rng m) : Rng (l ++ m) := fun y hy => by
  cases List.mem_append.1 hy with
  | inl e => exact h y e
  | inr e => exact k y e
theorem Rng.take {l : List Int} (h : Rng l) (n : Nat) : Rng (l.take n) := fun y hy => h y (List.mem_of_mem_take hy)
theorem Rng.drop {l : List Int} (h : Rng l) (n : Nat) : Rng (l.drop n) := fun y hy => h y (List.mem_of_mem_drop hy)
theorem Rng.getD {l : List Int} (h : Rng l) (i : Nat) : 0 ≤ l.getD i 0 ∧ l.getD i 0 ≤ 255 := by
  rcases Nat.lt_or_ge i l.length with hi | hi
  · rw [List.getD_eq_getElem?_getD, List.getElem?_eq_getElem hi]; exact h _ (List.getElem_mem hi)
  · rw [List.getD_eq_getElem?_getD, List.getElem?_eq_none hi]; simp

/-- v is a []byte that reads as l -/
def IsB (w : World) (v : Value) (l : List Int) : Prop :=
  Rng l ∧ ∃ ao cap, v = .slice ao l.length cap ∧ l.length ≤ cap ∧ cap ≤ maxLen ∧ (ao = none → l = [] ∧ cap = 0) ∧
    ∀ a, ao = some a → 0 < l.length → a.spot = none ∧ a.block < w.heap.size ∧ ∀ i, i < l.length → w.cell? ⟨a.block, a.off + i, none⟩ = some (.int .u8 (l.getD i 0))

theorem IsB.nil (w : World) : IsB w (.slice none 0 0) [] := ⟨Rng.nil, none, 0, rfl, by simp, by simp [maxLen], fun _ => ⟨rfl, rfl⟩, fun _ h => by cases h⟩
theorem IsB.keep {w w' : World} {v : Value} {l : List Int} (h : IsB w v l) (hs : w.heap.size ≤ w'.heap.size) (hk : ∀ b o, b < w.heap.size → w'.cell? ⟨b, o, none⟩ = w.cell? ⟨b, o, none⟩) : IsB w' v l := by
  obtain ⟨h0, ao, cap, h1, h2, h3, h4, h5⟩ := h
  refine ⟨h0, ao, cap, h1, h2, h3, h4, fun a ha hl => ?_⟩
  obtain ⟨k1, k2, k3⟩ := h5 a ha hl
  exact ⟨k1, by omega, fun i hi => (hk _ _ k2).trans (k3 i hi)⟩
theorem IsB.below {w w' : World} {v : Value} {l : List Int} (h : IsB w v l) (hb : Below w.heap.size w w') : IsB w' v l :=
  h.keep hb.size fun _ _ hp => hb.cell (p := ⟨_, _, none⟩) hp
theorem IsB.alloc {w : World} {v : Value} {l : List Int} (h : IsB w v l) (o : Obj) : IsB (w.alloc o) v l := h.below ((Below.refl _ _).alloc (Nat.le_refl _) o)
theorem IsB.drew {w : World} {v : Value} {l : List Int} (h : IsB w v l) : IsB w.drew v l := h
theorem IsB.rng {w : World} {v : Value} {l : List Int} (h : IsB w v l) : Rng l := h.1
theorem IsB.max {w : World} {v : Value} {l : List Int} (h : IsB w v l) : l.length ≤ 9223372036854775807 := by
  obtain ⟨_, ao, cap, _, h2, h3, _⟩ := h
  unfold maxLen at h3; omega

/-- a row of the call's own reads as its bytes -/
theorem IsB.of_own {w : World} {base n : Nat} {e : TypeId} {v : Value} {l : List Int} (h : w.ownsRow base e 1 v n (l.map (Value.int .u8))) (hr : Rng l) : IsB w v l := by
  obtain ⟨hlen, h2⟩ := h
  have hn : l.length = n := by simpa using hlen
  rcases h2 with ⟨rfl, rfl⟩ | ⟨g, cap, cur, rfl, hg, hh, hnc, hm, hs, ht⟩
  · have : l = [] := List.eq_nil_of_length_eq_zero hn
    subst this
    exact IsB.nil w
  · subst hn
    refine ⟨hr, _, cap, rfl, hnc, hm, fun h => by (cases h), fun a ha hl => ?_⟩
    cases ha
    refine ⟨rfl, (Array.getElem?_eq_some_iff.1 hh).1, fun i hi => ?_⟩
    show w.cell? ⟨g, 0 + i, none⟩ = _
    rw [Nat.zero_add, cell_of_row w g i cur e (0, 0) hh]
    have h3 : (cur.toList.take (l.length * 1))[i]? = (l.map (Value.int .u8))[i]? := by rw [ht]
    rw [List.getElem?_take_of_lt (by omega)] at h3
    rw [← Array.getElem?_toList, h3]
    simp [List.getElem?_map, List.getElem?_eq_getElem hi]

/-- v's form, and its length -/
theorem IsB.form {w : World} {v : Value} {l : List Int} (h : IsB w v l) : ∃ ao cap, v = .slice ao l.length cap ∧ l.length ≤ cap ∧ cap ≤ 9223372036854775807 ∧ (l = [] ∨ ∃ b o, ao = some ⟨b, o, none⟩ ∧ b < w.heap.size) := by
  obtain ⟨_, ao, cap, h1, h2, h3, h4, h5⟩ := h
  refine ⟨ao, cap, h1, h2, by unfold maxLen at h3; omega, ?_⟩
  rcases Nat.eq_zero_or_pos l.length with hz | hp
  · exact .inl (List.eq_nil_of_length_eq_zero hz)
  · rcases ao with _ | ⟨b, o, s⟩
    · exact .inl (h4 rfl).1
    · obtain ⟨k1, k2, _⟩ := h5 _ rfl hp
      simp only at k1 k2
      subst k1
      exact .inr ⟨b, o, rfl, k2⟩
/-- element k, under a name of its own -/
theorem IsB.at_ {w : World} {ao : Option Addr} {n cap : Nat} {l : List Int} (h : IsB w (.slice ao n cap) l) {k : Nat} (hk : k < l.length) :
    ∃ b o x, ao = some ⟨b, o, none⟩ ∧ b < w.heap.size ∧ Hid (l[k]? = some x) ∧ w.cell? ⟨b, o + k, none⟩ = some (.int .u8 x) ∧ 0 ≤ x ∧ x ≤ 255 := by
  obtain ⟨h0, ao', cap', h1, h2, h3, h4, h5⟩ := h
  simp only [Value.slice.injEq] at h1
  obtain ⟨rfl, rfl, rfl⟩ := h1
  rcases ao with _ | ⟨b, o, s⟩
  · have := (h4 rfl).1; subst this; simp at hk
  · obtain ⟨k1, k2, k3⟩ := h5 _ rfl (by omega)
    simp only at k1 k2 k3
    subst k1
    have e : l[k]? = some (l.getD k 0) := by simp [List.getD, hk]
    exact ⟨b, o, l.getD k 0, rfl, k2, e, k3 k hk, (h0.getD k).1, (h0.getD k).2⟩
/-- a list's beginning, one element longer -/
theorem take_snoc {α : Type} {l : List α} {k : Nat} {x : α} (h : l[k]? = some x) : l.take (k + 1) = l.take k ++ [x] := by
  obtain ⟨hk, rfl⟩ := List.getElem?_eq_some_iff.1 h
  rw [List.take_succ_eq_append_getElem hk]

section
variable {P : Program}
/-- string(v) -/
theorem IsB.conv {w : World} {v : Value} {l : List Int} (h : IsB w v l) {src e dst : TypeId} (hs : P.underlying src = some (.slice e)) (he : P.underlying e = some (.int .u8)) (hd : P.underlying dst = some .string) :
    (convert src dst v).run P w = .ok (.string (strOfNums l)) w := by
  obtain ⟨h0, ao, cap, rfl, h2, h3, h4, h5⟩ := h
  rcases ao with _ | a
  · obtain ⟨rfl, rfl⟩ := h4 rfl
    exact run_convert_bytes_nil (P := P) w src e hs he 0 0 dst hd
  · rcases Nat.eq_zero_or_pos l.length with hz | hp
    · have : l = [] := List.eq_nil_of_length_eq_zero hz
      subst this
      obtain ⟨b, o, s⟩ := a
      have hl := run_loadCells_list (P := P) w ⟨b, o, s⟩ [] (fun j v hj => by simp at hj)
      rw [run_convert_bytes_string w src dst e _ _ cap hs he hd, run_bytesToString w _ _ cap [] (by simpa using hl)]
      rfl
    · obtain ⟨k1, k2, k3⟩ := h5 a rfl hp
      obtain ⟨b, o, s⟩ := a
      simp only at k1 k2 k3
      subst k1
      exact run_convert_bytes_arg (P := P) w src e hs he b o _ cap l rfl k3 dst hd
end

theorem toNat_ofNat8 {x : Int} (h : 0 ≤ x ∧ x ≤ 255) : ((UInt8.ofNat x.toNat).toNat : Int) = x := by
  have : x.toNat < 256 := by omega
  simp [Nat.mod_eq_of_lt this]; omega
theorem map_ofNat8_inj : ∀ {l m : List Int}, Rng l → Rng m → (l.map fun n => UInt8.ofNat n.toNat) = (m.map fun n => UInt8.ofNat n.toNat) → l = m
  | [], [], _, _, _ => rfl
  | [], _ :: _, _, _, h => by simp at h
  | _ :: _, [], _, _, h => by simp at h
  | x :: l, y :: m, hl, hm, h => by
    simp only [List.map_cons, List.cons.injEq] at h
    have hx := hl x (by simp)
    have hy := hm y (by simp)
    have e : x = y := by
      have := congrArg (fun u : UInt8 => (u.toNat : Int)) h.1
      simp only [toNat_ofNat8 hx, toNat_ofNat8 hy] at this
      exact this
    rw [e, map_ofNat8_inj (fun z hz => hl z (by simp [hz])) (fun z hz => hm z (by simp [hz])) h.2]
/-- '==' of two strings, as the walk writes it -/
theorem str_beq {l m : List Int} (hl : Rng l) (hm : Rng m) : ((strOfNums l).toList == (strOfNums m).toList) = decide (l = m) := by
  rw [ByteArray.toList_eq, ByteArray.toList_eq, strOfNums_data, strOfNums_data]
  by_cases h : l = m
  · subst h; simp
  · have : ¬ (l.map fun n => UInt8.ofNat n.toNat) = (m.map fun n => UInt8.ofNat n.toNat) := fun e => h (map_ofNat8_inj hl hm e)
    simp [h, this]

end Go.Proofs.YthaekefdadccaaaDoor
namespace Go.Proofs.YthaekefdadccaaaDoor
open Go.RowKit
section
variable {P : Program} {w : World} {base : Nat} {e : TypeId} {size : Nat} {v : Value} {n : Nat} {xs : List Value}

theorem own_len (h : w.ownsRow base e 1 v n xs) : xs.length = n := by have := h.1; omega
/-- below 'base' nothing turns -/
theorem below_own {w' : World} {row : Option Nat} (hg : w.grownBy w' row) (hb : base ≤ w.heap.size) (hr : ∀ k, row = some k → base ≤ k) : Below base w w' :=
  (Below.refl base w).grown hg hb hr

/-- append(out, src...), src a []byte -/
theorem wpList_append_bytes {ops : Array Oper} {rest : List Oper} {o : Oper} {a : Act} {Q : Exit → Act → World → Prop} (s x : Operand) (t : TypeId) (hgd : o.guard = none)
    (ho : o.op = .call { callee := .builtin .append, args := #[s, x], argTypes := #[t, t] })
    (i : TypeInfo) (z : Value) (ht : P.underlying t = some (.slice e)) (hi : P.info? e = some i) (hz : i.zero = some z)
    (hsize : i.size = 1) (hby : i.bytes = 1) (hzs : z.cells.size = 1) (u : Value) (l m : List Int) (hs : a.eval s = v) (hx : a.eval x = u)
    (hown : w.ownsRow base e 1 v n (l.map (Value.int .u8))) (hu : IsB w u m) (hn : n + m.length ≤ 140737488355328) (hbase : base ≤ w.heap.size)
    (h : ∀ v' w1, w1.ownsRow base e 1 v' (n + m.length) ((l ++ m).map (Value.int .u8)) → Below base w w1 → wpList P ops Q rest (a.put o.dst v') w1) :
    wpList P ops Q (o :: rest) a w := by
  have hrow : ∀ k, v.ownBlock = some k → base ≤ k := fun k hk => (hown.lt k hk).1
  obtain ⟨h0, ao, cap, rfl, h2, h3, h4, h5⟩ := hu
  have nilway : m = [] → ∀ v', v' = v → wpList P ops Q rest (a.put o.dst v') w := fun hm v' hv => by
    subst hm; subst hv
    exact h v' w (by simpa using hown) (Below.refl _ _)
  rcases ao with _ | ad
  · obtain ⟨rfl, rfl⟩ := h4 rfl
    refine wpList_plain hgd fun K hK => ?_
    unfold Oper.wp execOp
    have hrun : (Builtin.append_ #[t, t] o.type #[v, .slice none 0 0]).run P w = .ok v w := by
      rcases hown.2 with ⟨rfl, rfl⟩ | ⟨g, cap, cur, rfl, _, _, hnc, _⟩
      · simp [Builtin.append_, run_underlying ht, sizeOf, typeInfo, hi, Builtin.lenOf, Builtin.firstCells]
      · simp [Builtin.append_, run_underlying ht, sizeOf, typeInfo, hi, Builtin.lenOf, Builtin.firstCells, hnc, storeCells]
    simp only [ho, resolve, invoke, builtin, Sem.run_bind, Sem.run_pure, Result.andThen_ok, List.map_toArray, List.map_cons, List.map_nil, hs, hx, List.length_nil, hrun]
    exact hK _ _ (nilway rfl v rfl)
  · refine wpList_append_own w hgd s x t ho base e i z 1 1 ht hi hz hsize hby hzs (by decide) v n _ hs hown ad m.length cap (m.map (Value.int .u8)) hx (by simp) ?_ (ints_oneCell _ _) (by unfold maxLen; omega) (by omega) hbase ?_
    · intro j y hj
      have hjl : j < m.length := by
        rcases Nat.lt_or_ge j m.length with h | h
        · exact h
        · simp [List.getElem?_eq_none h] at hj
      obtain ⟨k1, k2, k3⟩ := h5 ad rfl (by omega)
      obtain ⟨b, o', s'⟩ := ad
      simp only at k1 k2 k3
      subst k1
      have hplain : (⟨b, o', none⟩ : Addr).add j = ⟨b, o' + j, none⟩ := by unfold Addr.add; split <;> simp_all
      rw [hplain, k3 j hjl]
      simp [List.getElem?_eq_getElem hjl] at hj
      subst hj
      simp [List.getD, hjl]
    · intro v' w1 k1 k2 _
      exact h v' w1 (by simpa using k1) (below_own k2 hbase hrow)
end
end Go.Proofs.YthaekefdadccaaaDoor
namespace Go.Proofs.YthaekefdadccaaaDoor
open Go.RowKit
theorem plain_add' (b o i : Nat) : (⟨b, o, none⟩ : Addr).add i = ⟨b, o + i, none⟩ := by unfold Addr.add; split <;> simp_all
section
variable {P : Program} {w : World} {base : Nat} {e : TypeId} {size : Nat} {v : Value} {n : Nat} {xs : List Value}
end
end Go.Proofs.YthaekefdadccaaaDoor
namespace Go.Proofs.YthaekefdadccaaaDoor
open Go.RowKit
/-- v is a []byte in a block of the call's own that reads as l -/
def OwnS (w : World) (base : Nat) (e : TypeId) (v : Value) (l : List Int) : Prop :=
  Rng l ∧ ((v = .slice none 0 0 ∧ l = []) ∨ ∃ g cap cur, v = .slice (some ⟨g, 0, none⟩) l.length cap ∧ base ≤ g ∧ w.heap[g]? = some (.cells cur e (0, 0)) ∧ l.length ≤ cap ∧ cap ≤ cur.size ∧ cap ≤ maxLen ∧ cur.toList.take l.length = l.map (Value.int .u8))
section
variable {w w' : World} {base : Nat} {e : TypeId} {v : Value} {l : List Int}
theorem OwnS.of_own {n : Nat} (h : w.ownsRow base e 1 v n (l.map (Value.int .u8))) (hr : Rng l) : OwnS w base e v l := by
  have hn : l.length = n := by have := own_len h; simpa using this
  subst hn
  refine ⟨hr, ?_⟩
  rcases h.2 with ⟨rfl, h0⟩ | ⟨g, cap, cur, rfl, h1, h2, h3, h4, h5, h6⟩
  · exact .inl ⟨rfl, List.eq_nil_of_length_eq_zero h0⟩
  · exact .inr ⟨g, cap, cur, rfl, h1, h2, h3, by omega, h4, by simpa using h6⟩
theorem OwnS.rng (h : OwnS w base e v l) : Rng l := h.1
theorem OwnS.mono {b' : Nat} (h : OwnS w base e v l) (hb : b' ≤ base) : OwnS w b' e v l := by
  refine ⟨h.1, ?_⟩
  rcases h.2 with h2 | ⟨g, cap, cur, h1, h2, r⟩
  · exact .inl h2
  · exact .inr ⟨g, cap, cur, h1, by omega, r⟩
theorem OwnS.below (h : OwnS w base e v l) (hb : Below w.heap.size w w') : OwnS w' base e v l := by
  refine ⟨h.1, ?_⟩
  rcases h.2 with h2 | ⟨g, cap, cur, h1, h2, h3, r⟩
  · exact .inl h2
  · exact .inr ⟨g, cap, cur, h1, h2, (hb.block g (Array.getElem?_eq_some_iff.1 h3).1).trans h3, r⟩
theorem OwnS.alloc (h : OwnS w base e v l) (o : Obj) : OwnS (w.alloc o) base e v l := h.below ((Below.refl _ _).alloc (Nat.le_refl _) o)
theorem OwnS.lt (h : OwnS w base e v l) : ∀ k, v.ownBlock = some k → base ≤ k ∧ k < w.heap.size := by
  intro k hk
  rcases h.2 with ⟨rfl, _⟩ | ⟨g, cap, cur, rfl, h2, h3, _⟩
  · cases hk
  · have : g = k := by simpa [Value.ownBlock] using hk
    subst this
    exact ⟨h2, (Array.getElem?_eq_some_iff.1 h3).1⟩
theorem OwnS.form (h : OwnS w base e v l) : ∃ ao cap, v = .slice ao l.length cap ∧ l.length ≤ cap ∧ cap ≤ 9223372036854775807 ∧ (ao = none → l.length = 0 ∧ cap = 0) ∧ ∀ a, ao = some a → a = ⟨a.block, 0, none⟩ ∧ base ≤ a.block ∧ a.block < w.heap.size := by
  rcases h.2 with ⟨rfl, rfl⟩ | ⟨g, cap, cur, rfl, h2, h3, h4, _, h6, _⟩
  · exact ⟨none, 0, rfl, by simp, by omega, fun _ => ⟨rfl, rfl⟩, fun _ h => by cases h⟩
  · exact ⟨_, cap, rfl, h4, by unfold maxLen at h6; omega, fun h => (by cases h), fun a ha => by cases ha; exact ⟨rfl, h2, (Array.getElem?_eq_some_iff.1 h3).1⟩⟩
theorem OwnS.isB (h : OwnS w base e v l) : IsB w v l := by
  rcases h.2 with ⟨rfl, rfl⟩ | ⟨g, cap, cur, rfl, h2, h3, h4, h5, h6, h7⟩
  · exact IsB.nil w
  · refine ⟨h.1, _, cap, rfl, h4, h6, fun h => (by cases h), fun a ha hp => ?_⟩
    cases ha
    refine ⟨rfl, (Array.getElem?_eq_some_iff.1 h3).1, fun i hi => ?_⟩
    show w.cell? ⟨g, 0 + i, none⟩ = _
    rw [Nat.zero_add, cell_of_row w g i cur e (0, 0) h3]
    have h8 : (cur.toList.take l.length)[i]? = (l.map (Value.int .u8))[i]? := by rw [h7]
    rw [List.getElem?_take_of_lt hi] at h8
    rw [← Array.getElem?_toList, h8]
    simp [List.getElem?_map, List.getElem?_eq_getElem hi]
theorem OwnS.at_ {ao : Option Addr} {n cap k : Nat} (h : OwnS w base e (.slice ao n cap) l) (hk : k < l.length) :
    ∃ g x, ao = some ⟨g, 0, none⟩ ∧ base ≤ g ∧ g < w.heap.size ∧ Hid (l[k]? = some x) ∧ w.cell? ⟨g, k, none⟩ = some (.int .u8 x) ∧ w.frozen? ⟨g, k, none⟩ = false := by
  have hB := h.isB
  rcases h.2 with ⟨_, rfl⟩ | ⟨g, cap', cur, hv, h2, h3, h4, h5, h6, h7⟩
  · simp at hk
  · simp only [Value.slice.injEq] at hv
    obtain ⟨rfl, rfl, rfl⟩ := hv
    obtain ⟨b, o, x, hb, _, hx, hc, _⟩ := hB.at_ hk
    cases hb
    exact ⟨g, x, rfl, h2, (Array.getElem?_eq_some_iff.1 h3).1, hx, by simpa using hc, frozen_of_row w g k cur e h3⟩
/-- two rows that lie apart -/
theorem OwnS.apart {v' : Value} {_l' : List Int} {_base' : Nat} (h : OwnS w base e v l) (hlt : ∀ k, v'.ownBlock = some k → k < base) : v.ownBlock = none ∨ v.ownBlock ≠ v'.ownBlock := by
  rcases h.2 with ⟨rfl, _⟩ | ⟨g, cap, cur, rfl, h2, _⟩
  · exact .inl rfl
  · refine .inr fun he => ?_
    have := hlt g he.symm
    omega
end
section
variable {P : Program} {w : World}
theorem run_loadBytes (xs : List Int) (a : Addr) (h : ∀ j x, xs[j]? = some x → w.cell? (a.add j) = some (.int .u8 x)) :
    (Extern.Bytes.loadBytes a xs.length .empty).run P w = .ok (strOfNums xs) w := by
  rw [Lib.run_loadBytesX (P := P) w xs a .empty h]
  simp [Lib.bytesOf, strOfNums]
theorem IsB.run_bytesOf {v : Value} {l : List Int} (h : IsB w v l) : (Extern.Bytes.bytesOf v).run P w = .ok (strOfNums l) w := by
  obtain ⟨h0, ao, cap, rfl, h2, h3, h4, h5⟩ := h
  rcases ao with _ | a
  · obtain ⟨rfl, rfl⟩ := h4 rfl
    rfl
  · simp only [Extern.Bytes.bytesOf]
    refine run_loadBytes l a fun j x hj => ?_
    have hjl : j < l.length := (List.getElem?_eq_some_iff.1 hj).1
    obtain ⟨k1, k2, k3⟩ := h5 a rfl (by omega)
    obtain ⟨b, o, s⟩ := a
    simp only at k1 k2 k3
    subst k1
    rw [plain_add', k3 j hjl]
    simp [List.getD, hj]
end
theorem OwnS.spare {w : World} {base : Nat} {e : TypeId} {l : List Int} {g cap : Nat} (h : OwnS w base e (.slice (some ⟨g, 0, none⟩) l.length cap) l) (i : Nat) (hi : i < cap) : (w.cell? ⟨g, i, none⟩).isSome = true ∧ w.frozen? ⟨g, i, none⟩ = false := by
  rcases h.2 with ⟨hv, _⟩ | ⟨g', cap', cur, hv, h2, h3, h4, h5, h6, h7⟩
  · cases hv
  · simp only [Value.slice.injEq, Option.some.injEq, Addr.mk.injEq, and_true, true_and] at hv
    obtain ⟨rfl, rfl⟩ := hv
    refine ⟨?_, frozen_of_row w g i cur e h3⟩
    rw [cell_of_row w g i cur e (0, 0) h3]
    simp; omega
/-- v[k:] and v[k:k+m] -/
theorem IsB.cut {w : World} {ao : Option Addr} {cap : Nat} {l : List Int} (h : IsB w (.slice ao l.length cap) l) (k m : Nat) (hk : k + m ≤ l.length) : IsB w (.slice (ao.map (·.add k)) m (cap - k)) ((l.drop k).take m) := by
  obtain ⟨h0, ao', cap', h1, h2, h3, h4, h5⟩ := h
  simp only [Value.slice.injEq, true_and] at h1
  obtain ⟨rfl, rfl⟩ := h1
  have hlen : ((l.drop k).take m).length = m := by rw [List.length_take, List.length_drop]; omega
  refine ⟨(h0.drop k).take m, ao.map (·.add k), cap - k, by rw [hlen], by rw [hlen]; omega, by omega, fun hn => ?_, fun a ha hp => ?_⟩
  · have : ao = none := by cases ao; rfl; cases hn
    obtain ⟨rfl, rfl⟩ := h4 this
    exact ⟨by simp, by omega⟩
  · rw [hlen] at hp
    cases ao with
    | none => cases ha
    | some b =>
      obtain ⟨k1, k2, k3⟩ := h5 b rfl (by omega)
      obtain ⟨g, o, s⟩ := b
      simp only at k1 k2 k3
      subst k1
      simp only [Option.map_some, Option.some.injEq] at ha
      rw [plain_add'] at ha
      subst ha
      refine ⟨rfl, k2, fun i hi => ?_⟩
      rw [hlen] at hi
      have := k3 (k + i) (by omega)
      show w.cell? ⟨g, o + k + i, none⟩ = _
      rw [Nat.add_assoc, this]
      simp [List.getD, List.getElem?_take_of_lt hi]
theorem IsB.cut0 {w : World} {ao : Option Addr} {n cap : Nat} {l : List Int} (_h : IsB w (.slice ao n cap) l) : IsB w (.slice ao 0 0) [] :=
  ⟨Rng.nil, ao, 0, rfl, Nat.le_refl _, by simp [maxLen], fun _ => ⟨rfl, rfl⟩, fun _ _ hp => absurd hp (by simp)⟩
end Go.Proofs.YthaekefdadccaaaDoor
namespace Go.Proofs.YthaekefdadccaaaDoor
open Go.RowKit
theorem ofInt_nat (n a : Nat) (h : a < 2 ^ n) : (BitVec.ofInt n (a : Int)).toNat = a := by
  simp [Nat.mod_eq_of_lt h]
theorem wrap_nat {k : IntKind} (hk : k.signed = false) (a : Nat) (h : a < 2 ^ k.bits) : k.wrap (a : Int) = a := by
  unfold IntKind.wrap
  simp [hk]
  exact Int.emod_eq_of_lt (by omega) (by exact_mod_cast h)
theorem bits_or_nat {k : IntKind} (hk : k.signed = false) (a b : Nat) (ha : a < 2 ^ k.bits) (hb : b < 2 ^ k.bits) : bits .or k (a : Int) (b : Int) = ((a ||| b : Nat) : Int) := by
  unfold bits
  simp only [BitVec.toNat_or, ofInt_nat _ _ ha, ofInt_nat _ _ hb]
  exact wrap_nat hk _ (Nat.or_lt_two_pow ha hb)
end Go.Proofs.YthaekefdadccaaaDoor
namespace Go.Proofs.YthaekefdadccaaaDoor
open Go.RowKit
/-- v is a [][]byte that reads as ls -/
def IsBB (w : World) (v : Value) (ls : List (List Int)) : Prop :=
  ∃ ao cap, v = .slice ao ls.length cap ∧ ls.length ≤ cap ∧ cap ≤ maxLen ∧ (ao = none → ls = [] ∧ cap = 0) ∧
    ∀ a, ao = some a → 0 < ls.length → a.spot = none ∧ a.block < w.heap.size ∧ ∀ i l, ls[i]? = some l → ∃ u, w.cell? ⟨a.block, a.off + i, none⟩ = some u ∧ IsB w u l
theorem IsBB.nil (w : World) : IsBB w (.slice none 0 0) [] := ⟨none, 0, rfl, by simp, by simp [maxLen], fun _ => ⟨rfl, rfl⟩, fun _ h => by cases h⟩
theorem IsBB.below {w w' : World} {v : Value} {ls : List (List Int)} (h : IsBB w v ls) (hb : Below w.heap.size w w') : IsBB w' v ls := by
  obtain ⟨ao, cap, h1, h2, h3, h4, h5⟩ := h
  refine ⟨ao, cap, h1, h2, h3, h4, fun a ha hl => ?_⟩
  obtain ⟨k1, k2, k3⟩ := h5 a ha hl
  refine ⟨k1, Nat.lt_of_lt_of_le k2 hb.size, fun i l hi => ?_⟩
  obtain ⟨u, hu, hB⟩ := k3 i l hi
  exact ⟨u, (hb.cell (p := ⟨a.block, a.off + i, none⟩) k2).trans hu, hB.below hb⟩
theorem IsBB.max {w : World} {v : Value} {ls : List (List Int)} (h : IsBB w v ls) : ls.length ≤ 9223372036854775807 := by
  obtain ⟨ao, cap, _, h2, h3, _⟩ := h
  unfold maxLen at h3; omega
theorem IsBB.form {w : World} {v : Value} {ls : List (List Int)} (h : IsBB w v ls) : ∃ ao cap, v = .slice ao ls.length cap ∧ ls.length ≤ cap := by
  obtain ⟨ao, cap, h1, h2, _⟩ := h
  exact ⟨ao, cap, h1, h2⟩
/-- element k -/
theorem IsBB.at_ {w : World} {ao : Option Addr} {n cap : Nat} {ls : List (List Int)} (h : IsBB w (.slice ao n cap) ls) {k : Nat} (hk : k < ls.length) :
    ∃ b o u l, ao = some ⟨b, o, none⟩ ∧ b < w.heap.size ∧ Hid (ls[k]? = some l) ∧ w.cell? ⟨b, o + k, none⟩ = some u ∧ Hid (IsB w u l) := by
  obtain ⟨ao', cap', h1, h2, h3, h4, h5⟩ := h
  simp only [Value.slice.injEq] at h1
  obtain ⟨rfl, rfl, rfl⟩ := h1
  rcases ao with _ | ⟨b, o, s⟩
  · have := (h4 rfl).1; subst this; simp at hk
  · obtain ⟨k1, k2, k3⟩ := h5 _ rfl (by omega)
    simp only at k1 k2 k3
    subst k1
    have e : ls[k]? = some (ls[k]) := List.getElem?_eq_getElem hk
    obtain ⟨u, hu, hB⟩ := k3 k _ e
    exact ⟨b, o, u, _, rfl, k2, e, hu, hB⟩
end Go.Proofs.YthaekefdadccaaaDoor
namespace Go.Proofs.YthaekefdadccaaaDoor
open Go.RowKit
end Go.Proofs.YthaekefdadccaaaDoor
namespace Go.Proofs.YthaekefdadccaaaDoor
open Go.RowKit
section
variable {P : Program} {w : World} {base : Nat} {e : TypeId} {size : Nat} {v : Value} {n : Nat} {xs : List Value}

end
end Go.Proofs.YthaekefdadccaaaDoor
namespace Go.Proofs.YthaekefdadccaaaDoor
open Go.RowKit
end Go.Proofs.YthaekefdadccaaaDoor
namespace Go.Proofs.YthaekefdadccaaaDoor
open Go.RowKit
/-- v is a slice whose elements (sz cells each) stand in R to l -/
def IsL {α : Type} (sz : Nat) (R : World → List Value → α → Prop) (w : World) (v : Value) (l : List α) : Prop :=
  ∃ ao cap, v = .slice ao l.length cap ∧ l.length ≤ cap ∧ cap ≤ maxLen ∧ (ao = none → l = [] ∧ cap = 0) ∧
    ∀ i x, l[i]? = some x → ∃ b o cs, ao = some ⟨b, o, none⟩ ∧ b < w.heap.size ∧ cs.length = sz ∧ (∀ j u, cs[j]? = some u → w.cell? ⟨b, o + i * sz + j, none⟩ = some u) ∧ R w cs x
/-- what R says stays where all that was there stays -/
def Stays {α : Type} (R : World → List Value → α → Prop) : Prop := ∀ w w' cs x, Below w.heap.size w w' → R w cs x → R w' cs x
section
variable {α : Type} {sz : Nat} {R : World → List Value → α → Prop} {w w' : World} {v : Value} {l : List α}
theorem IsL.below (hR : Stays R) (h : IsL sz R w v l) (hb : Below w.heap.size w w') : IsL sz R w' v l := by
  obtain ⟨ao, cap, h1, h2, h3, h4, h5⟩ := h
  refine ⟨ao, cap, h1, h2, h3, h4, fun i x hx => ?_⟩
  obtain ⟨b, o, cs, k1, k2, k3, k4, k5⟩ := h5 i x hx
  exact ⟨b, o, cs, k1, Nat.lt_of_lt_of_le k2 hb.size, k3, fun j u hu => (hb.cell (p := ⟨b, o + i * sz + j, none⟩) k2).trans (k4 j u hu), hR w w' cs x hb k5⟩
theorem IsL.alloc (hR : Stays R) (h : IsL sz R w v l) (o : Obj) : IsL sz R (w.alloc o) v l := h.below hR ((Below.refl _ _).alloc (Nat.le_refl _) o)
theorem IsL.form (h : IsL sz R w v l) : ∃ ao cap, v = .slice ao l.length cap ∧ l.length ≤ cap ∧ cap ≤ 9223372036854775807 ∧ (l = [] ∨ ∃ b o, ao = some ⟨b, o, none⟩ ∧ b < w.heap.size) := by
  obtain ⟨ao, cap, h1, h2, h3, h4, h5⟩ := h
  refine ⟨ao, cap, h1, h2, by unfold maxLen at h3; omega, ?_⟩
  cases l with
  | nil => exact .inl rfl
  | cons x l =>
    obtain ⟨b, o, cs, k1, k2, -⟩ := h5 0 x rfl
    exact .inr ⟨b, o, k1, k2⟩
theorem IsL.max (h : IsL sz R w v l) : l.length ≤ 9223372036854775807 := by
  obtain ⟨ao, cap, h1, h2, h3, -⟩ := h
  unfold maxLen at h3
  omega
theorem IsL.at_ {ao : Option Addr} {n cap k : Nat} (h : IsL sz R w (.slice ao n cap) l) (hk : k < l.length) :
    ∃ b o x cs, ao = some ⟨b, o, none⟩ ∧ b < w.heap.size ∧ Hid (l[k]? = some x) ∧ cs.length = sz ∧ Hid (∀ j u, cs[j]? = some u → w.cell? ⟨b, o + k * sz + j, none⟩ = some u) ∧ Hid (R w cs x) := by
  obtain ⟨ao', cap', h1, h2, h3, h4, h5⟩ := h
  simp only [Value.slice.injEq] at h1
  obtain ⟨rfl, rfl, rfl⟩ := h1
  have hx : l[k]? = some (l[k]'hk) := List.getElem?_eq_getElem hk
  obtain ⟨b, o, cs, k1, k2, k3, k4, k5⟩ := h5 k _ hx
  exact ⟨b, o, _, cs, k1, k2, hx, k3, k4, k5⟩
theorem IsL.nil (w : World) : IsL sz R w (.slice none 0 0) ([] : List α) := ⟨none, 0, rfl, by simp, by simp [maxLen], fun _ => ⟨rfl, rfl⟩, fun i x h => by simp at h⟩
end
end Go.Proofs.YthaekefdadccaaaDoor
namespace Go.Proofs.YthaekefdadccaaaDoor
open Go.RowKit
section
variable {P : Program} {ops : Array Oper} {o : Oper} {a : Act} {w : World} {K : Act → World → Prop} {Q : Exit → Act → World → Prop}
end
end Go.Proofs.YthaekefdadccaaaDoor
