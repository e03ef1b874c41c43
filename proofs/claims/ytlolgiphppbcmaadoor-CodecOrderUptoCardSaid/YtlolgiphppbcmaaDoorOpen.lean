/- Arguments opened: a []byte that came in reads as a list of bytes. No program in sight. -/
import Derived.Test.YtlolgiphppbcmaaDoorBytes
import Derived.ProofKit
import Derived.OpenShut
import Derived.ShutString
import Derived.ChangeOld
import Derived.Lib.SmallJoins
import Derived.JoinedCond
import Derived.SizedLaws
namespace Go.Proofs.YtlolgiphppbcmaaDoor
open Go.ChangeShapes Go.WideShapes Go.ChangeAt Go.RowKit Go.Joins
section
variable {H : Type} {enc : TypeId × Value → H} {P : Program} {w : World} {base : Nat} {spare : Nat → Bool} {held : Bool}
theorem rng_u8 {zs : List Int} (h : ∀ n ∈ zs, (Lit.int .u8 n).wf = true) : Rng zs := fun x hx => by
  have := h x hx
  simpa [Lit.wf, IntKind.min, IntKind.max, IntKind.signed, IntKind.bits] using this
/-- one cell that holds a []byte -/
theorem isB_of_trod {t e : TypeId} {fuel : Nat} {v : Value} {x : DataW H × List MemPlace} (ht : P.underlying t = some (.slice e)) (he : P.underlying e = some (.int .u8)) (hc : P.cellsOf e = 1)
    (h : DataW.trod enc P w base spare held fuel t [v] = some x) : ∃ l, IsB w v l ∧ (l = [] ∨ ∃ elems sp, x.1 = .slice elems sp ∧ elems.length = l.length) := by
  rcases open_ints ht he hc h with ⟨hcs, _⟩ | ⟨a, len, cap, zs, hcs, _, hl, hm, hz, hx, hcell, hwz⟩
  · simp at hcs; subst hcs; exact ⟨[], IsB.nil w, .inl rfl⟩
  · simp at hcs; subst hcs
    have hlen : (zs.take len).length = len := by
      rw [List.length_take]
      have : len ≤ zs.length := by rw [hz]; split <;> omega
      omega
    refine ⟨zs.take len, ⟨(rng_u8 hwz).take len, some a, cap, by rw [hlen], by rw [hlen]; exact hl, hm, (fun h => by cases h), fun a' ha hp => ?_⟩, .inr ⟨_, _, by rw [hx], by simp [lits]⟩⟩
    cases ha
    rw [hlen] at hp
    have hzl : len ≤ zs.length := by rw [hz]; split <;> omega
    have h0 := hcell 0 (by omega)
    have hs : a.spot = none := by simpa [Addr.add] using World.cell?_spot h0
    obtain ⟨b, o, s⟩ := a
    simp only at hs
    subst hs
    have plain : ∀ i, (⟨b, o, none⟩ : Addr).add i = ⟨b, o + i, none⟩ := fun i => by unfold Addr.add; split <;> simp_all
    refine ⟨rfl, World.block_lt_of_cell? w _ ((plain 0) ▸ h0), fun i hi => ?_⟩
    rw [hlen] at hi
    have := hcell i (by omega)
    rw [plain] at this
    rw [this]
    simp [List.getD, List.getElem?_take_of_lt hi]
theorem open_isB {t e : TypeId} {r : Reach} {b0 : Nat} {v : Value} {d : DataW H} {p : List MemPlace} (ht : P.underlying t = some (.slice e)) (he : P.underlying e = some (.int .u8)) (hc : P.cellsOf e = 1)
    (hv : Value.okWide P w r b0 t v) (h : DataW.Trod enc P w base spare held t v d p) : ∃ l, IsB w v l ∧ (l = [] ∨ ∃ elems sp, d = .slice elems sp ∧ elems.length = l.length) := by
  obtain ⟨a, len, cap, rfl⟩ := okWide_slice ht hv
  obtain ⟨fuel, hf⟩ := h
  exact isB_of_trod ht he hc (by simpa [Value.cells] using hf)
/-- an array of two integers, by value -/
theorem open_arr2 {t e : TypeId} {k : IntKind} {r : Reach} {b0 : Nat} {v : Value} {d : DataW H} {p : List MemPlace} (ht : P.underlying t = some (.array 2 e)) (he : P.underlying e = some (.int k)) (hc : P.cellsOf e = 1) (hC : P.cellsOf t = 2)
    (hv : Value.okWide P w r b0 t v) (h : DataW.Trod enc P w base spare held t v d p) : ∃ x y : Int, v = .agg #[.int k x, .int k y] ∧ (Lit.int k x).wf = true ∧ (Lit.int k y).wf = true := by
  unfold Value.okWide at hv
  rw [ht] at hv
  obtain ⟨cs, rfl, hsz, _⟩ := hv
  obtain ⟨l⟩ := cs
  match l, hsz.trans hC with
  | [c0, c1], _ =>
    obtain ⟨fuel, hf⟩ := h
    obtain ⟨xs, m, _, _, _, hl, hx⟩ := DataW.trod_array ht hf
    match xs, hl with
    | [y0, y1], _ =>
      have h0 : DataW.trod enc P w base spare held m e [c0] = some y0 := by simpa [hc, Value.cells] using hx 0 (by omega)
      have h1 : DataW.trod enc P w base spare held m e [c1] = some y1 := by simpa [hc, Value.cells] using hx 1 (by omega)
      obtain ⟨x, e0, rfl, wx⟩ := DataW.trod_int he h0
      obtain ⟨y, e1, rfl, wy⟩ := DataW.trod_int he h1
      simp at e0 e1
      subst e0 e1
      exact ⟨x, y, rfl, wx, wy⟩
end
end Go.Proofs.YtlolgiphppbcmaaDoor
