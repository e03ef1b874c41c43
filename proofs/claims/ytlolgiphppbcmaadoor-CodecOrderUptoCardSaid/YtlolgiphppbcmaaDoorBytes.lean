/- A []byte that reads as a list of numbers, and what the walk wants of it. No program in sight. -/
import Derived.Test.YtlolgiphppbcmaaDoorBase
import Derived.Laws.BytesArg
import Derived.Lib.SlBytesConst
namespace Go.Proofs.YtlolgiphppbcmaaDoor
open Go.RowKit

/-- each fits a byte -/
def Rng (l : List Int) : Prop := ∀ x ∈ l, 0 ≤ x ∧ x ≤ 255
theorem Rng.nil : Rng [] := fun _ h => by cases h
theorem Rng.cons {x : Int} {l : List Int} (hx : 0 ≤ x ∧ x ≤ 255) (h : Rng l) : Rng (x :: l) := fun y hy => by
  cases List.mem_cons.1 hy with
  | inl e => subst e; exact hx
  | inr e => exact h y e
theorem Rng.append {l m : List Int} (h : Rng l) (k : Rng m) : Rng (l ++ m) := fun y hy => by
  cases List.mem_append.1 hy with
  | inl e => exact h y e
  | inr e => exact k y e
theorem Rng.take {l : List Int} (h : Rng l) (n : Nat) : Rng (l.take n) := fun y hy => h y (List.mem_of_mem_take hy)
theorem Rng.drop {l : List Int} (h : Rng l) (n : Nat) : Rng (l.drop n) := fun y hy => h y (List.mem_of_mem_drop hy)
theorem Rng.getD {l : List Int} (h : Rng l) (i : Nat) : 0 ≤ l.getD i 0 ∧ l.getD i 0 ≤ 255 := by
  rcases Nat.lt_or_ge i l.length with hi | hi
  · rw [List.getD_eq_getElem?_getD, List.getElem?_eq_getElem hi]; exact h _ (List.getElem_mem hi)
  · rw [List.getD_eq_getElem?_getD, List.getElem?_eq_none hi]; simp

/-- v is a []byte that reads as l -/
def IsB (w : World) (v : Value) (l : List Int) : Prop :=
  Rng l ∧ ∃ ao cap, v = .slice ao l.length cap ∧ l.length ≤ cap ∧ cap ≤ maxLen ∧ (ao = none → l = [] ∧ cap = 0) ∧
    ∀ a, ao = some a → 0 < l.length → a.spot = none ∧ a.block < w.heap.size ∧ ∀ i, i < l.length → w.cell? ⟨a.block, a.off + i, none⟩ = some (.int .u8 (l.getD i 0))

theorem IsB.nil (w : World) : IsB w (.slice none 0 0) [] := ⟨Rng.nil, none, 0, rfl, by simp, by simp [maxLen], fun _ => ⟨rfl, rfl⟩, fun _ h => by cases h⟩
theorem IsB.keep {w w' : World} {v : Value} {l : List Int} (h : IsB w v l) (hs : w.heap.size ≤ w'.heap.size) (hk : ∀ b o, b < w.heap.size → w'.cell? ⟨b, o, none⟩ = w.cell? ⟨b, o, none⟩) : IsB w' v l := by
  obtain ⟨h0, ao, cap, h1, h2, h3, h4, h5⟩ := h
  refine ⟨h0, ao, cap, h1, h2, h3, h4, fun a ha hl => ?_⟩
  obtain ⟨k1, k2, k3⟩ := h5 a ha hl
  exact ⟨k1, by omega, fun i hi => (hk _ _ k2).trans (k3 i hi)⟩
theorem IsB.below {w w' : World} {v : Value} {l : List Int} (h : IsB w v l) (hb : Below w.heap.size w w') : IsB w' v l :=
  h.keep hb.size fun _ _ hp => hb.cell (p := ⟨_, _, none⟩) hp
theorem IsB.alloc {w : World} {v : Value} {l : List Int} (h : IsB w v l) (o : Obj) : IsB (w.alloc o) v l := h.below ((Below.refl _ _).alloc (Nat.le_refl _) o)
theorem IsB.drew {w : World} {v : Value} {l : List Int} (h : IsB w v l) : IsB w.drew v l := h
theorem IsB.rng {w : World} {v : Value} {l : List Int} (h : IsB w v l) : Rng l := h.1
theorem IsB.max {w : World} {v : Value} {l : List Int} (h : IsB w v l) : l.length ≤ 9223372036854775807 := by
  obtain ⟨_, ao, cap, _, h2, h3, _⟩ := h
  unfold maxLen at h3; omega

/-- a row of the call's own reads as its bytes -/
theorem IsB.of_own {w : World} {base n : Nat} {e : TypeId} {v : Value} {l : List Int} (h : w.ownsRow base e 1 v n (l.map (Value.int .u8))) (hr : Rng l) : IsB w v l := by
  obtain ⟨hlen, h2⟩ := h
  have hn : l.length = n := by simpa using hlen
  rcases h2 with ⟨rfl, rfl⟩ | ⟨g, cap, cur, rfl, hg, hh, hnc, hm, hs, ht⟩
  · have : l = [] := List.eq_nil_of_length_eq_zero hn
    subst this
    exact IsB.nil w
  · subst hn
    refine ⟨hr, _, cap, rfl, hnc, hm, fun h => by (cases h), fun a ha hl => ?_⟩
    cases ha
    refine ⟨rfl, (Array.getElem?_eq_some_iff.1 hh).1, fun i hi => ?_⟩
    show w.cell? ⟨g, 0 + i, none⟩ = _
    rw [Nat.zero_add, cell_of_row w g i cur e (0, 0) hh]
    have h3 : (cur.toList.take (l.length * 1))[i]? = (l.map (Value.int .u8))[i]? := by rw [ht]
    rw [List.getElem?_take_of_lt (by omega)] at h3
    rw [← Array.getElem?_toList, h3]
    simp [List.getElem?_map, List.getElem?_eq_getElem hi]

/-- v's form, and its length -/
theorem IsB.form {w : World} {v : Value} {l : List Int} (h : IsB w v l) : ∃ ao cap, v = .slice ao l.length cap ∧ l.length ≤ cap ∧ cap ≤ 9223372036854775807 ∧ (l = [] ∨ ∃ b o, ao = some ⟨b, o, none⟩ ∧ b < w.heap.size) := by
  obtain ⟨_, ao, cap, h1, h2, h3, h4, h5⟩ := h
  refine ⟨ao, cap, h1, h2, by unfold maxLen at h3; omega, ?_⟩
  rcases Nat.eq_zero_or_pos l.length with hz | hp
  · exact .inl (List.eq_nil_of_length_eq_zero hz)
  · rcases ao with _ | ⟨b, o, s⟩
    · exact .inl (h4 rfl).1
    · obtain ⟨k1, k2, _⟩ := h5 _ rfl hp
      simp only at k1 k2
      subst k1
      exact .inr ⟨b, o, rfl, k2⟩
/-- element k, under a name of its own -/
theorem IsB.at_ {w : World} {ao : Option Addr} {n cap : Nat} {l : List Int} (h : IsB w (.slice ao n cap) l) {k : Nat} (hk : k < l.length) :
    ∃ b o x, ao = some ⟨b, o, none⟩ ∧ b < w.heap.size ∧ Hid (l[k]? = some x) ∧ w.cell? ⟨b, o + k, none⟩ = some (.int .u8 x) ∧ 0 ≤ x ∧ x ≤ 255 := by
  obtain ⟨h0, ao', cap', h1, h2, h3, h4, h5⟩ := h
  simp only [Value.slice.injEq] at h1
  obtain ⟨rfl, rfl, rfl⟩ := h1
  rcases ao with _ | ⟨b, o, s⟩
  · have := (h4 rfl).1; subst this; simp at hk
  · obtain ⟨k1, k2, k3⟩ := h5 _ rfl (by omega)
    simp only at k1 k2 k3
    subst k1
    have e : l[k]? = some (l.getD k 0) := by simp [List.getD, hk]
    exact ⟨b, o, l.getD k 0, rfl, k2, e, k3 k hk, (h0.getD k).1, (h0.getD k).2⟩
/-- a list's beginning, one element longer -/
theorem take_snoc {α : Type} {l : List α} {k : Nat} {x : α} (h : l[k]? = some x) : l.take (k + 1) = l.take k ++ [x] := by
  obtain ⟨hk, rfl⟩ := List.getElem?_eq_some_iff.1 h
  rw [List.take_succ_eq_append_getElem hk]

/-- the bytes of a constant, as a conversion lays them -/
theorem isB_const (w : World) (l : List Int) (hr : Rng l) (hl : l.length ≤ 9223372036854775807) (e : TypeId) (fr : Nat × Nat) : IsB (w.alloc (.cells (l.map (Value.int .u8)).toArray e fr)) (.slice (some ⟨w.heap.size, 0, none⟩) l.length l.length) l := by
  refine ⟨hr, _, _, rfl, Nat.le_refl _, by unfold maxLen; omega, fun h => (by cases h), fun a ha hp => ?_⟩
  cases ha
  refine ⟨rfl, by simp, fun i hi => ?_⟩
  show (w.alloc _).cell? ⟨w.heap.size, 0 + i, none⟩ = _
  rw [Nat.zero_add, cell_of_row _ w.heap.size i _ e fr (heap_alloc_new w _)]
  simp [hi]

section
variable {P : Program}
/-- string(v) -/
theorem IsB.conv {w : World} {v : Value} {l : List Int} (h : IsB w v l) {src e dst : TypeId} (hs : P.underlying src = some (.slice e)) (he : P.underlying e = some (.int .u8)) (hd : P.underlying dst = some .string) :
    (convert src dst v).run P w = .ok (.string (strOfNums l)) w := by
  obtain ⟨h0, ao, cap, rfl, h2, h3, h4, h5⟩ := h
  rcases ao with _ | a
  · obtain ⟨rfl, rfl⟩ := h4 rfl
    exact run_convert_bytes_nil (P := P) w src e hs he 0 0 dst hd
  · rcases Nat.eq_zero_or_pos l.length with hz | hp
    · have : l = [] := List.eq_nil_of_length_eq_zero hz
      subst this
      obtain ⟨b, o, s⟩ := a
      have hl := run_loadCells_list (P := P) w ⟨b, o, s⟩ [] (fun j v hj => by simp at hj)
      rw [run_convert_bytes_string w src dst e _ _ cap hs he hd, run_bytesToString w _ _ cap [] (by simpa using hl)]
      rfl
    · obtain ⟨k1, k2, k3⟩ := h5 a rfl hp
      obtain ⟨b, o, s⟩ := a
      simp only at k1 k2 k3
      subst k1
      exact run_convert_bytes_arg (P := P) w src e hs he b o _ cap l rfl k3 dst hd
end

theorem toNat_ofNat8 {x : Int} (h : 0 ≤ x ∧ x ≤ 255) : ((UInt8.ofNat x.toNat).toNat : Int) = x := by
  have : x.toNat < 256 := by omega
  simp [Nat.mod_eq_of_lt this]; omega
theorem map_ofNat8_inj : ∀ {l m : List Int}, Rng l → Rng m → (l.map fun n => UInt8.ofNat n.toNat) = (m.map fun n => UInt8.ofNat n.toNat) → l = m
  | [], [], _, _, _ => rfl
  | [], _ :: _, _, _, h => by simp at h
  | _ :: _, [], _, _, h => by simp at h
  | x :: l, y :: m, hl, hm, h => by
    simp only [List.map_cons, List.cons.injEq] at h
    have hx := hl x (by simp)
    have hy := hm y (by simp)
    have e : x = y := by
      have := congrArg (fun u : UInt8 => (u.toNat : Int)) h.1
      simp only [toNat_ofNat8 hx, toNat_ofNat8 hy] at this
      exact this
    rw [e, map_ofNat8_inj (fun z hz => hl z (by simp [hz])) (fun z hz => hm z (by simp [hz])) h.2]
/-- two strings of bytes are one as their numbers are -/
theorem strOfNums_inj {l m : List Int} (hl : Rng l) (hm : Rng m) : strOfNums l = strOfNums m ↔ l = m := by
  constructor
  · intro h
    have := congrArg (fun s : ByteArray => s.data.toList) h
    simp only [strOfNums_data] at this
    exact map_ofNat8_inj hl hm this
  · rintro rfl; rfl

/-- '==' of two strings, as the walk writes it -/
theorem str_beq {l m : List Int} (hl : Rng l) (hm : Rng m) : ((strOfNums l).toList == (strOfNums m).toList) = decide (l = m) := by
  rw [ByteArray.toList_eq, ByteArray.toList_eq, strOfNums_data, strOfNums_data]
  by_cases h : l = m
  · subst h; simp
  · have : ¬ (l.map fun n => UInt8.ofNat n.toNat) = (m.map fun n => UInt8.ofNat n.toNat) := fun e => h (map_ofNat8_inj hl hm e)
    simp [h, this]

end Go.Proofs.YtlolgiphppbcmaaDoor
