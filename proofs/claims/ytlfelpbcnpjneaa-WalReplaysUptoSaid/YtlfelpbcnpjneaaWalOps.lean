/- wal: operations and batches, as lists; what they are laid down as. -/
import Derived.Test.YtlfelpbcnpjneaaKit
import Derived.Test.YtlfelpbcnpjneaaCodecFr
namespace Go.Proofs.Ytlfelpbcnpjneaa
open Go.RowKit
namespace Wal
open Codec
/-- an operation: whether it deletes, key, value -/
abbrev Opr := Bool × List Int × List Int
def opR (w : World) (cs : List Value) (x : Opr) : Prop := ∃ kv vv, cs = [.bool x.1, kv, vv] ∧ IsB w kv x.2.1 ∧ IsB w vv x.2.2
theorem opR_stays : Stays opR := fun w w' cs x hb ⟨kv, vv, h1, h2, h3⟩ => ⟨kv, vv, h1, h2.below hb, h3.below hb⟩
abbrev IsOps (w : World) (v : Value) (l : List Opr) : Prop := IsL 3 opR w v l
/-- an operation's cells -/
theorem IsOps.at3 {w : World} {ao : Option Addr} {n cap k : Nat} {l : List Opr} (h : IsOps w (.slice ao n cap) l) (hk : k < l.length) :
    ∃ b o x kv vv, ao = some ⟨b, o, none⟩ ∧ b < w.heap.size ∧ Hid (l[k]? = some x) ∧ w.cell? ⟨b, o + k * 3, none⟩ = some (.bool x.1) ∧ w.cell? ⟨b, o + k * 3 + 1, none⟩ = some kv ∧ w.cell? ⟨b, o + k * 3 + 2, none⟩ = some vv ∧ Hid (IsB w kv x.2.1) ∧ Hid (IsB w vv x.2.2) := by
  obtain ⟨b, o, x, cs, h1, h2, h3, h4, h5, kv, vv, rfl, h6, h7⟩ := h.at_ hk
  exact ⟨b, o, x, kv, vv, h1, h2, h3, h5.out 0 _ rfl, h5.out 1 _ rfl, h5.out 2 _ rfl, h6, h7⟩
def textB (l : List Int) : List Int := numN l.length ++ l
def opB (x : Opr) : List Int := if x.1 then 1 :: textB x.2.1 else 0 :: (textB x.2.1 ++ textB x.2.2)
def bodyB (seq : Nat) (l : List Opr) : List Int := numN seq ++ numN l.length ++ (l.map opB).flatten
def fitsB (x : Opr) : Bool := !(x.1 && decide (0 < x.2.2.length)) && decide (0 < x.2.1.length) && decide (x.2.1.length ≤ 256) && decide (x.2.2.length ≤ 65536)
def encF (seq : Nat) (l : List Opr) : List Int × Int :=
  if l.length < 1 ∨ 256 < l.length ∨ l.all fitsB = false then ([], 60)
  else if seq < 1 ∨ 4611686018427387904 < seq + l.length then ([], 61)
  else if 1048576 < (bodyB seq l).length then ([], 62)
  else (frameF 66 (bodyB seq l), 0)
theorem textB_rng {l : List Int} (h : Rng l) : Rng (textB l) := (numN_rng _).append h
theorem opB_rng {x : Opr} (h : Rng x.2.1) (k : Rng x.2.2) : Rng (opB x) := by
  unfold opB
  split
  · exact Rng.cons (by decide) (textB_rng h)
  · exact Rng.cons (by decide) ((textB_rng h).append (textB_rng k))
theorem IsOps.rng {w : World} {v : Value} {l : List Opr} (h : IsOps w v l) {x : Opr} (hx : x ∈ l) : Rng x.2.1 ∧ Rng x.2.2 := by
  obtain ⟨ao, cap, -, -, -, -, h5⟩ := h
  obtain ⟨i, hi⟩ := List.getElem?_of_mem hx
  obtain ⟨b, o, cs, -, -, -, -, kv, vv, -, k1, k2⟩ := h5 i x hi
  exact ⟨k1.rng, k2.rng⟩
theorem flat_rng {l : List Opr} (h : ∀ x ∈ l, Rng x.2.1 ∧ Rng x.2.2) : Rng (l.map opB).flatten := by
  intro y hy
  obtain ⟨z, hz, hy⟩ := List.mem_flatten.1 hy
  obtain ⟨x, hx, rfl⟩ := List.mem_map.1 hz
  exact opB_rng (h x hx).1 (h x hx).2 y hy
theorem bodyB_rng (seq : Nat) {l : List Opr} (h : ∀ x ∈ l, Rng x.2.1 ∧ Rng x.2.2) : Rng (bodyB seq l) := ((numN_rng _).append (numN_rng _)).append (flat_rng h)
theorem flat_snoc' {l : List Opr} {k : Nat} {x : Opr} (h : l[k]? = some x) : ((l.take (k + 1)).map opB).flatten = ((l.take k).map opB).flatten ++ opB x := by
  rw [take_snoc h, List.map_append, List.flatten_append]; simp
theorem opB_len {x : Opr} (h : fitsB x = true) : (opB x).length ≤ 65836 := by
  unfold fitsB at h
  simp only [Bool.and_eq_true, decide_eq_true_eq] at h
  have h1 := numN_len10 (n := x.2.1.length) (by omega)
  have h2 := numN_len10 (n := x.2.2.length) (by omega)
  unfold opB textB
  split <;> simp only [List.length_cons, List.length_append] <;> omega
theorem flat_len : ∀ {l : List Opr}, (∀ x ∈ l, fitsB x = true) → ((l.map opB).flatten).length ≤ l.length * 65836
  | [], _ => by simp
  | x :: l, h => by
    have h1 := opB_len (h x (by simp))
    have h2 := flat_len (l := l) (fun y hy => h y (by simp [hy]))
    simp only [List.map_cons, List.flatten_cons, List.length_append, List.length_cons]
    omega
end Wal
end Go.Proofs.Ytlfelpbcnpjneaa
