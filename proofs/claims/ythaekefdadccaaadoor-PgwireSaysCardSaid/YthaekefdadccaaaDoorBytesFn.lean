/- The library's bytes functions, by their contracts. -/
import Derived.Test.YthaekefdadccaaaDoorKit
import Derived.Test.YthaekefdadccaaaDoorRows
import Derived.Lib.Bytealg
set_option linter.unusedVariables false
set_option linter.unusedSimpArgs false
namespace Go.Proofs.YthaekefdadccaaaDoor
open Go.RowKit
/-- the place of the first c, or -1 -/
def idxI : List Int → Int → Int
  | [], _ => -1
  | x :: l, c => if x = c then 0 else if idxI l c = -1 then -1 else idxI l c + 1
theorem ofNat8_inj {x y : Int} (hx : 0 ≤ x ∧ x ≤ 255) (hy : 0 ≤ y ∧ y ≤ 255) : UInt8.ofNat x.toNat = UInt8.ofNat y.toNat ↔ x = y := by
  rw [← UInt8.toNat_inj]
  have h1 := toNat_ofNat8 hx
  have h2 := toNat_ofNat8 hy
  omega
theorem idx_map : ∀ {l : List Int} {c : Int}, Rng l → (0 ≤ c ∧ c ≤ 255) → Lib.indexByte (l.map fun n => UInt8.ofNat n.toNat) (UInt8.ofNat c.toNat) = idxI l c
  | [], _, _, _ => rfl
  | x :: l, c, h, hc => by
    have ih := idx_map (l := l) (c := c) (fun z hz => h z (List.mem_cons_of_mem _ hz)) hc
    have e := ofNat8_inj (h x (by simp)) hc
    simp only [List.map_cons, Lib.indexByte, idxI, ih, beq_iff_eq, e]
theorem idxI_rng : ∀ (l : List Int) (c : Int), -1 ≤ idxI l c ∧ idxI l c < l.length
  | [], _ => by simp [idxI]
  | x :: l, c => by
    have ih := idxI_rng l c
    simp only [idxI, List.length_cons]
    split
    · omega
    · split <;> omega
section
variable {P : Program} {w : World}
theorem IsB.run_index {v : Value} {l : List Int} {c : Int} (h : IsB w v l) (hc : 0 ≤ c ∧ c ≤ 255) :
    (Extern.BytealgIndexByte.indexByte #[v, .int .u8 c]).run P w = .ok (.int .i64 (idxI l c)) w := by
  have hs := Lib.run_indexByteString (P := P) (strOfNums l) c w
  have e : (Extern.BytealgIndexByte.indexByte #[v, .int .u8 c]).run P w = (Extern.BytealgIndexByte.indexByte #[.string (strOfNums l), .int .u8 c]).run P w := by
    have hb := h.run_bytesOf (P := P)
    have hb2 : (Extern.Bytes.bytesOf (.string (strOfNums l))).run P w = .ok (strOfNums l) w := rfl
    change Sem.run P (do
      let b ← Extern.Bytes.bytesOf v
      let c ← Extern.Bytes.asByte (.int .u8 c)
      match (List.range b.size).find? fun i => b[i]! == c with
      | some i => pure (goInt i)
      | none => pure (goInt (-1))) w = Sem.run P (do
      let b ← Extern.Bytes.bytesOf (.string (strOfNums l))
      let c ← Extern.Bytes.asByte (.int .u8 c)
      match (List.range b.size).find? fun i => b[i]! == c with
      | some i => pure (goInt i)
      | none => pure (goInt (-1))) w
    rw [Sem.run_bind, Sem.run_bind, hb, hb2]
  rw [e, hs, strOfNums_data]
  have := idx_map h.rng hc
  rw [← this]
theorem IsB.run_compare {v u : Value} {l m : List Int} (h : IsB w v l) (k : IsB w u m) :
    (Extern.BytealgCompare.compare #[v, u]).run P w = .ok (.int .i64 (Lib.compareBytes (strOfNums l).data.toList (strOfNums m).data.toList)) w := by
  rw [← Lib.run_compareString (P := P)]
  obtain ⟨K, hK⟩ : ∃ K : ByteArray → ByteArray → Sem Value, ∀ v u, Extern.BytealgCompare.compare #[v, u] = (Extern.Bytes.bytesOf v >>= fun a => Extern.Bytes.bytesOf u >>= fun b => K a b) := ⟨_, fun _ _ => rfl⟩
  have h1 : (Extern.Bytes.bytesOf (.string (strOfNums l))).run P w = .ok (strOfNums l) w := rfl
  have h2 : (Extern.Bytes.bytesOf (.string (strOfNums m))).run P w = .ok (strOfNums m) w := rfl
  rw [hK, hK, Sem.run_bind, Sem.run_bind, h.run_bytesOf, h1]
  simp only [Result.andThen]
  rw [Sem.run_bind, Sem.run_bind, k.run_bytesOf, h2]
end
/-- the order of two lists of bytes -/
def cmpB : List Int → List Int → Int
  | [], [] => 0
  | [], _ :: _ => -1
  | _ :: _, [] => 1
  | a :: x, b :: y => if a < b then -1 else if b < a then 1 else cmpB x y
theorem cmpB_map : ∀ {l m : List Int}, Rng l → Rng m → Lib.compareBytes (l.map fun n => UInt8.ofNat n.toNat) (m.map fun n => UInt8.ofNat n.toNat) = cmpB l m
  | [], [], _, _ => rfl
  | _ :: _, [], _, _ => rfl
  | [], _ :: _, _, _ => rfl
  | x :: l, y :: m, hl, hm => by
    have hx := hl x (by simp)
    have hy := hm y (by simp)
    have ih := cmpB_map (l := l) (m := m) (fun z hz => hl z (List.mem_cons_of_mem _ hz)) (fun z hz => hm z (List.mem_cons_of_mem _ hz))
    have h1 := toNat_ofNat8 hx
    have h2 := toNat_ofNat8 hy
    have e1 : (UInt8.ofNat x.toNat < UInt8.ofNat y.toNat) ↔ x < y := by rw [UInt8.lt_iff_toNat_lt]; omega
    have e2 : (UInt8.ofNat y.toNat < UInt8.ofNat x.toNat) ↔ y < x := by rw [UInt8.lt_iff_toNat_lt]; omega
    simp only [List.map_cons, Lib.compareBytes, cmpB, ih, e1, e2]
theorem cmpB_rng : ∀ (l m : List Int), -1 ≤ cmpB l m ∧ cmpB l m ≤ 1
  | [], [] => by simp [cmpB]
  | [], _ :: _ => by simp [cmpB]
  | _ :: _, [] => by simp [cmpB]
  | a :: x, b :: y => by
    have ih := cmpB_rng x y
    simp only [cmpB]
    split
    · omega
    · split <;> omega
theorem cmpB_swap : ∀ (l m : List Int), cmpB m l = - cmpB l m
  | [], [] => by simp [cmpB]
  | [], _ :: _ => by simp [cmpB]
  | _ :: _, [] => by simp [cmpB]
  | a :: x, b :: y => by
    have ih := cmpB_swap x y
    simp only [cmpB]
    rcases Int.lt_trichotomy a b with h | h | h
    · rw [if_neg (by omega), if_pos h, if_pos h]; rfl
    · subst h; simp [ih]
    · rw [if_pos h, if_neg (by omega), if_pos h]
set_option maxRecDepth 100000 in
set_option maxHeartbeats 400000 in
theorem index_any (v : Value) (l : List Int) (c : Int) (w : World) (h : IsB w v l) (hc : 0 ≤ c ∧ c ≤ 255) :
    Calls Tryd.prog 81 #[v, .int .u8 c] w fun e w' => e = .returned (.int .i64 (idxI l c)) ∧ w = w' := by
  have hr := h.run_index (P := Tryd.prog) hc
  have HR := Lib.hid hr
  clear hr h
  go_enter Tryd.func81, Tryd.ntmps81
  go_wp2_with fail
  rw [run_callFunc_extern Tryd.func99 (by kernel_rfl) (by kernel_rfl) (by kernel_rfl) (e := Extern.BytealgIndexByte.indexByte) (by kernel_rfl), HR.out]
  simp only [Result.andThen]
  rw [Oper.upon_value]
  go_wp2_with fail
  go_ret
  exact ⟨rfl, rfl⟩
theorem infoU8 : (Tryd.prog.info? 5).map (fun i => (i.zero, i.size, i.bytes)) = some (some (.int .u8 0), 1, 1) := by kernel_rfl
def ClonePost (l : List Int) (w : World) (e : Ending) (w' : World) : Prop := ∃ v, e = .returned v ∧ OwnS w' w.heap.size 5 v l ∧ Below w.heap.size w w'
end Go.Proofs.YthaekefdadccaaaDoor
