/- The library's bytes functions, by their contracts. -/
import Derived.Test.YthaekefdadccaaaDoorKit
import Derived.Test.YthaekefdadccaaaDoorRows
import Derived.Lib.Bytealg
namespace Go.Proofs.YthaekefdadccaaaDoor
open Go.RowKit
/-- the place of the first c, or -1 -/
def idxI : List Int → Int → Int
  | [], _ => -1
  | x :: l, c => if x = c then 0 else if idxI l c = -1 then -1 else idxI l c + 1
theorem ofNat8_inj {x y : Int} (hx : 0 ≤ x ∧ x ≤ 255) (hy : 0 ≤ y ∧ y ≤ 255) : UInt8.ofNat x.toNat = UInt8.ofNat y.toNat ↔ x = y := by
  rw [← UInt8.toNat_inj]
  have h1 := toNat_ofNat8 hx
  have h2 := toNat_ofNat8 hy
  omega
theorem idx_map : ∀ {l : List Int} {c : Int}, Rng l → (0 ≤ c ∧ c ≤ 255) → Lib.indexByte (l.map fun n => UInt8.ofNat n.toNat) (UInt8.ofNat c.toNat) = idxI l c
  | [], _, _, _ => rfl
  | x :: l, c, h, hc => by
    have ih := idx_map (l := l) (c := c) (fun z hz => h z (List.mem_cons_of_mem _ hz)) hc
    have e := ofNat8_inj (h x (by simp)) hc
    simp only [List.map_cons, Lib.indexByte, idxI, ih, beq_iff_eq, e]
theorem idxI_rng : ∀ (l : List Int) (c : Int), -1 ≤ idxI l c ∧ idxI l c < l.length
  | [], _ => by simp [idxI]
  | x :: l, c => by
    have ih := idxI_rng l c
    simp only [idxI, List.length_cons]
    split
    · omega
    · split <;> omega
section
variable {P : Program} {w : World}
theorem IsB.run_index {v : Value} {l : List Int} {c : Int} (h : IsB w v l) (hc : 0 ≤ c ∧ c ≤ 255) :
    (Extern.BytealgIndexByte.indexByte #[v, .int .u8 c]).run P w = .ok (.int .i64 (idxI l c)) w := by
  have hs := Lib.run_indexByteString (P := P) (strOfNums l) c w
  have e : (Extern.BytealgIndexByte.indexByte #[v, .int .u8 c]).run P w = (Extern.BytealgIndexByte.indexByte #[.string (strOfNums l), .int .u8 c]).run P w := by
    have hb := h.run_bytesOf (P := P)
    have hb2 : (Extern.Bytes.bytesOf (.string (strOfNums l))).run P w = .ok (strOfNums l) w := rfl
    change Sem.run P (do
      let b ← Extern.Bytes.bytesOf v
      let c ← Extern.Bytes.asByte (.int .u8 c)
      match (List.range b.size).find? fun i => b[i]! == c with
      | some i => pure (goInt i)
      | none => pure (goInt (-1))) w = Sem.run P (do
      let b ← Extern.Bytes.bytesOf (.string (strOfNums l))
      let c ← Extern.Bytes.asByte (.int .u8 c)
      match (List.range b.size).find? fun i => b[i]! == c with
      | some i => pure (goInt i)
      | none => pure (goInt (-1))) w
    rw [Sem.run_bind, Sem.run_bind, hb, hb2]
  rw [e, hs, strOfNums_data]
  have := idx_map h.rng hc
  rw [← this]
end
set_option maxRecDepth 100000 in
set_option maxHeartbeats 400000 in
theorem index_any (v : Value) (l : List Int) (c : Int) (w : World) (h : IsB w v l) (hc : 0 ≤ c ∧ c ≤ 255) :
    Calls Tryd.prog 81 #[v, .int .u8 c] w fun e w' => e = .returned (.int .i64 (idxI l c)) ∧ w = w' := by
  have hr := h.run_index (P := Tryd.prog) hc
  have HR := Lib.hid hr
  clear hr h
  go_enter Tryd.func81, Tryd.ntmps81
  go_wp2_with fail
  rw [run_callFunc_extern Tryd.func99 (by kernel_rfl) (by kernel_rfl) (by kernel_rfl) (e := Extern.BytealgIndexByte.indexByte) (by kernel_rfl), HR.out]
  simp only [Result.andThen]
  rw [Oper.upon_value]
  go_wp2_with fail
  go_ret
  exact ⟨rfl, rfl⟩
theorem infoU8 : (Tryd.prog.info? 5).map (fun i => (i.zero, i.size, i.bytes)) = some (some (.int .u8 0), 1, 1) := by kernel_rfl
end Go.Proofs.YthaekefdadccaaaDoor
