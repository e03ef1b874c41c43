/- rowkey: tables, rows, indexes and entries that came in. -/
import Derived.Test.YtfkemeamimcnjaaDoorPmRd
import Derived.Test.YtfkemeamimcnjaaDoorUpto
import Derived.Test.YtfkemeamimcnjaaDoorRkb
namespace Go.Proofs.YtfkemeamimcnjaaDoor
open Go.RowKit Go.WideShapes
namespace PM
abbrev tableTy : Ty := (.st (.fcons 0 (.int .i64) (.fcons 1 .str (.fcons 2 (.sl 72 (.st (.fcons 0 .str (.fcons 1 (.int .i64) (.fcons 2 .bool (.fcons 3 (.st (.fcons 0 (.int .i64) (.fcons 1 .bool (.fcons 2 (.int .i64) (.fcons 3 .str .fnil))))) .fnil)))))) (.fcons 3 (.sl 8 (.int .i64)) (.fcons 4 (.sl 56 (.st (.fcons 0 (.int .i64) (.fcons 1 .str (.fcons 2 (.sl 8 (.int .i64)) (.fcons 3 .bool .fnil)))))) .fnil))))))
theorem tableMt : Mt Tryd.prog tableTy (.inl 26) := ⟨_, Tryd.underlying26, by kernel_rfl, ⟨_, rfl, rfl, ⟨Tryd.underlying3, by kernel_rfl⟩, ⟨_, rfl, rfl, ⟨Tryd.underlying9, by kernel_rfl⟩, ⟨_, rfl, rfl, ⟨_, Tryd.underlying22, by kernel_rfl, ⟨by decide, by kernel_rfl⟩, ⟨_, Tryd.underlying82, by kernel_rfl, ⟨_, rfl, rfl, ⟨Tryd.underlying9, by kernel_rfl⟩, ⟨_, rfl, rfl, ⟨Tryd.underlying3, by kernel_rfl⟩, ⟨_, rfl, rfl, ⟨Tryd.underlying4, by kernel_rfl⟩, ⟨_, rfl, rfl, ⟨_, Tryd.underlying47, by kernel_rfl, ⟨_, rfl, rfl, ⟨Tryd.underlying3, by kernel_rfl⟩, ⟨_, rfl, rfl, ⟨Tryd.underlying4, by kernel_rfl⟩, ⟨_, rfl, rfl, ⟨Tryd.underlying2, by kernel_rfl⟩, ⟨_, rfl, rfl, ⟨Tryd.underlying9, by kernel_rfl⟩, trivial⟩⟩⟩⟩⟩, trivial⟩⟩⟩⟩⟩⟩, ⟨_, rfl, rfl, ⟨_, Tryd.underlying23, by kernel_rfl, ⟨by decide, by kernel_rfl⟩, ⟨Tryd.underlying3, by kernel_rfl⟩⟩, ⟨_, rfl, rfl, ⟨_, Tryd.underlying24, by kernel_rfl, ⟨by decide, by kernel_rfl⟩, ⟨_, Tryd.underlying42, by kernel_rfl, ⟨_, rfl, rfl, ⟨Tryd.underlying3, by kernel_rfl⟩, ⟨_, rfl, rfl, ⟨Tryd.underlying9, by kernel_rfl⟩, ⟨_, rfl, rfl, ⟨_, Tryd.underlying23, by kernel_rfl, ⟨by decide, by kernel_rfl⟩, ⟨Tryd.underlying3, by kernel_rfl⟩⟩, ⟨_, rfl, rfl, ⟨Tryd.underlying4, by kernel_rfl⟩, trivial⟩⟩⟩⟩⟩⟩, trivial⟩⟩⟩⟩⟩⟩
abbrev rowTy : Ty := (.sl 40 (.st (.fcons 0 (.int .i64) (.fcons 1 .bool (.fcons 2 (.int .i64) (.fcons 3 .str .fnil))))))
theorem rowMt : Mt Tryd.prog rowTy (.inl 27) := ⟨_, Tryd.underlying27, by kernel_rfl, ⟨by decide, by kernel_rfl⟩, ⟨_, Tryd.underlying47, by kernel_rfl, ⟨_, rfl, rfl, ⟨Tryd.underlying3, by kernel_rfl⟩, ⟨_, rfl, rfl, ⟨Tryd.underlying4, by kernel_rfl⟩, ⟨_, rfl, rfl, ⟨Tryd.underlying2, by kernel_rfl⟩, ⟨_, rfl, rfl, ⟨Tryd.underlying9, by kernel_rfl⟩, trivial⟩⟩⟩⟩⟩⟩
abbrev indexTy : Ty := (.st (.fcons 0 (.int .i64) (.fcons 1 .str (.fcons 2 (.sl 8 (.int .i64)) (.fcons 3 .bool .fnil)))))
theorem indexMt : Mt Tryd.prog indexTy (.inl 42) := ⟨_, Tryd.underlying42, by kernel_rfl, ⟨_, rfl, rfl, ⟨Tryd.underlying3, by kernel_rfl⟩, ⟨_, rfl, rfl, ⟨Tryd.underlying9, by kernel_rfl⟩, ⟨_, rfl, rfl, ⟨_, Tryd.underlying23, by kernel_rfl, ⟨by decide, by kernel_rfl⟩, ⟨Tryd.underlying3, by kernel_rfl⟩⟩, ⟨_, rfl, rfl, ⟨Tryd.underlying4, by kernel_rfl⟩, trivial⟩⟩⟩⟩⟩
abbrev kvTy : Ty := (.st (.fcons 0 (.sl 1 (.int .u8)) (.fcons 1 (.sl 1 (.int .u8)) .fnil)))
theorem kvMt : Mt Tryd.prog kvTy (.inl 31) := ⟨_, Tryd.underlying31, by kernel_rfl, ⟨_, rfl, rfl, ⟨_, Tryd.underlying29, by kernel_rfl, ⟨by decide, by kernel_rfl⟩, ⟨Tryd.underlying5, by kernel_rfl⟩⟩, ⟨_, rfl, rfl, ⟨_, Tryd.underlying29, by kernel_rfl, ⟨by decide, by kernel_rfl⟩, ⟨Tryd.underlying5, by kernel_rfl⟩⟩, trivial⟩⟩⟩
def numsC (s : ByteArray) : List Int := s.data.toList.map fun b => (b.toNat : Int)
abbrev ValD : Type := Int × Bool × Int × ByteArray × Unit
abbrev ColD : Type := ByteArray × Int × Bool × ValD × Unit
abbrev IdxD : Type := Int × ByteArray × List Int × Bool × Unit
abbrev TabD : Type := Int × ByteArray × List ColD × List Int × List IdxD × Unit
abbrev KvD : Type := List Int × List Int × Unit
def toXV (d : ValD) : XV := ⟨d.1, d.2.1, d.2.2.1, numsC d.2.2.2.1⟩
def toCol (d : ColD) : Col := ⟨numsC d.1, d.2.1, d.2.2.1, toXV d.2.2.2.1⟩
def toIdx (d : IdxD) : Idx := ⟨d.1, numsC d.2.1, d.2.2.1, d.2.2.2.1⟩
def toTb (d : TabD) : Tb := ⟨d.1, numsC d.2.1, d.2.2.1.map toCol, d.2.2.2.1, d.2.2.2.2.1.map toIdx⟩
theorem encL_map {α β : Type} (e : β → List DV) (f : α → β) (l : List α) : encL e (l.map f) = encL (fun x => e (f x)) l := by
  unfold encL
  rw [List.map_map]
  rfl
theorem toTb_c (d : TabD) : (dvT tableTy d).map AV.d = (toTb d).c := by
  obtain ⟨i, n, cs, k, ix, u⟩ := d
  unfold Tb.c toTb
  simp only [encL_map]
  exact rfl
theorem toIdx_c (d : IdxD) : (AV.agg ((dvT indexTy d).map AV.d)) = (toIdx d).av := rfl
theorem toRow_c (d : List ValD) : (dvT rowTy d).map AV.d = [vl (d.map toXV)] := by
  simp only [vl, encL_map]
  exact rfl
/-- a key and a value -/
def kvA (k v : List Int) : AV := .agg [bs k, bs v]
theorem toKv_c (d : KvD) : (AV.agg ((dvT kvTy d).map AV.d)) = kvA d.1 d.2.1 := rfl
theorem sum_ge {α : Type} (f : α → Nat) (c : Nat) : ∀ l : List α, (∀ x ∈ l, c ≤ f x) → l.length * c ≤ (l.map f).sum
  | [], _ => by simp
  | x :: l, h => by
    have := sum_ge f c l (fun y hy => h y (List.mem_cons_of_mem _ hy))
    have := h x (by simp)
    rw [List.map_cons, List.sum_cons, List.length_cons, Nat.add_mul]
    omega
theorem sum_mem {α : Type} (f : α → Nat) : ∀ {l : List α} {x : α}, x ∈ l → f x ≤ (l.map f).sum
  | y :: l, x, h => by
    rw [List.map_cons, List.sum_cons]
    rcases List.mem_cons.1 h with rfl | h
    · omega
    · have := sum_mem f h; omega
/-- what the second form's bound says of a table -/
def tbSmall (T : Tb) : Prop := T.cols.length ≤ 1048576 ∧ T.key.length ≤ 1048576 ∧ ∀ X ∈ T.ix, X.cols.length ≤ 1048576
theorem row_small {d : List ValD} (h : Bulk rowTy d ≤ 1048576) : (d.map toXV).length ≤ 1048576 := by
  have e1 : Bulk rowTy d = (d.map fun x : ValD => (1 + (1 + (1 + ((x.2.2.2.1.size + 1) + 0)))) + 1).sum + 1 := rfl
  replace h := Nat.le_trans (Nat.le_of_eq e1.symm) h
  have e2 := sum_ge (fun x : ValD => (1 + (1 + (1 + ((x.2.2.2.1.size + 1) + 0)))) + 1) 1 d (fun x _ => by omega)
  rw [List.length_map]
  omega
theorem ints_ge (l : List Int) : (l.map fun _ : Int => 1).sum = l.length := by
  induction l with
  | nil => rfl
  | cons x l ih => rw [List.map_cons, List.sum_cons, ih, List.length_cons]; omega
theorem index_small {d : IdxD} (h : Bulk indexTy d ≤ 1048576) : (toIdx d).cols.length ≤ 1048576 := by
  obtain ⟨i, n, l, b, u⟩ := d
  have e1 : Bulk indexTy (i, n, l, b, u) = (1 + ((n.size + 1) + (((l.map fun _ : Int => 1).sum + 1) + (1 + 0)))) + 1 := rfl
  replace h := Nat.le_trans (Nat.le_of_eq e1.symm) h
  have e2 := ints_ge l
  show l.length ≤ _
  omega
theorem table_small {d : TabD} (h : Bulk tableTy d ≤ 1048576) : tbSmall (toTb d) := by
  obtain ⟨i, n, cs, k, ix, u⟩ := d
  have e1 : Bulk tableTy (i, n, cs, k, ix, u) = (1 + ((n.size + 1) + (((cs.map fun x : ColD => ((x.1.size + 1) + (1 + (1 + (((1 + (1 + (1 + ((x.2.2.2.1.2.2.2.1.size + 1) + 0)))) + 1) + 0)))) + 1).sum + 1) + (((k.map fun _ : Int => 1).sum + 1) + (((ix.map fun x : IdxD => (1 + ((x.2.1.size + 1) + (((x.2.2.1.map fun _ : Int => 1).sum + 1) + (1 + 0)))) + 1).sum + 1) + 0))))) + 1 := rfl
  replace h := Nat.le_trans (Nat.le_of_eq e1.symm) h
  have e2 := ints_ge k
  have e3 := sum_ge (fun x : ColD => ((x.1.size + 1) + (1 + (1 + (((1 + (1 + (1 + ((x.2.2.2.1.2.2.2.1.size + 1) + 0)))) + 1) + 0)))) + 1) 1 cs (fun x _ => by omega)
  refine ⟨?_, ?_, fun X hX => ?_⟩
  · show (cs.map toCol).length ≤ _
    rw [List.length_map]; omega
  · show k.length ≤ _
    omega
  · obtain ⟨x, hx, rfl⟩ := List.mem_map.1 (show X ∈ ix.map toIdx from hX)
    have e4 := sum_mem (fun x : IdxD => (1 + ((x.2.1.size + 1) + (((x.2.2.1.map fun _ : Int => 1).sum + 1) + (1 + 0)))) + 1) hx
    have e5 := ints_ge x.2.2.1
    show x.2.2.1.length ≤ _
    omega
theorem kv_small {d : KvD} (h : Bulk kvTy d ≤ 1048576) : d.1.length ≤ 1048576 ∧ d.2.1.length ≤ 1048576 := by
  obtain ⟨k, v, u⟩ := d
  have e1 : Bulk kvTy (k, v, u) = (((k.map fun _ : Int => 1).sum + 1) + (((v.map fun _ : Int => 1).sum + 1) + 0)) + 1 := rfl
  replace h := Nat.le_trans (Nat.le_of_eq e1.symm) h
  have e2 := ints_ge k
  have e3 := ints_ge v
  simp only
  omega
set_option maxRecDepth 100000 in
theorem table_open {w : World} {base : Nat} {r : Reach} {v : Value} {d : TabD} (hv : Value.okWide Tryd.prog w r base 26 v) (h : Rd w tableTy v.cells.toList d) : ∃ T : Tb, RelA G0 nom w T.v v ∧ (Bulk tableTy d ≤ 1048576 → tbSmall T) := by
  obtain ⟨⟨cs⟩, rfl, -⟩ := okWide_struct Tryd.underlying26 hv
  have h' := rd_agg' (cs := cs) (t := tableTy) rfl (by decide) h
  rw [toTb_c] at h'
  exact ⟨toTb d, h', table_small⟩
set_option maxRecDepth 100000 in
theorem index_open {w : World} {base : Nat} {r : Reach} {v : Value} {d : IdxD} (hv : Value.okWide Tryd.prog w r base 42 v) (h : Rd w indexTy v.cells.toList d) : ∃ X : Idx, RelA G0 nom w X.av v ∧ (Bulk indexTy d ≤ 1048576 → X.cols.length ≤ 1048576) := by
  obtain ⟨⟨cs⟩, rfl, -⟩ := okWide_struct Tryd.underlying42 hv
  have h' := rd_agg' (cs := cs) (t := indexTy) rfl (by decide) h
  rw [toIdx_c] at h'
  exact ⟨toIdx d, h', index_small⟩
set_option maxRecDepth 100000 in
theorem kv_open {w : World} {base : Nat} {r : Reach} {v : Value} {d : KvD} (hv : Value.okWide Tryd.prog w r base 31 v) (h : Rd w kvTy v.cells.toList d) : ∃ x : List Int × List Int, RelA G0 nom w (kvA x.1 x.2) v ∧ (Bulk kvTy d ≤ 1048576 → x.1.length ≤ 1048576 ∧ x.2.length ≤ 1048576) := by
  obtain ⟨⟨cs⟩, rfl, -⟩ := okWide_struct Tryd.underlying31 hv
  have h' := rd_agg' (cs := cs) (t := kvTy) rfl (by decide) h
  rw [toKv_c] at h'
  exact ⟨(d.1, d.2.1), h', kv_small⟩
theorem row_open {w : World} {v : Value} {d : List ValD} (h : Rd w rowTy [v] d) : ∃ R : List XV, RelA G0 nom w (vl R) v ∧ (Bulk rowTy d ≤ 1048576 → R.length ≤ 1048576) := by
  obtain ⟨u, hu, hr⟩ := rd_dv rowTy 0 [v] d (by decide) h 0 (.sl 4 (encL XV.cd (d.map toXV))) (by
    have := toRow_c d
    have e : (dvT rowTy d).map AV.d = [DV.sl 4 (encL XV.cd (d.map toXV))].map AV.d := this
    have e2 : dvT rowTy d = [DV.sl 4 (encL XV.cd (d.map toXV))] := by
      rw [encL_map]; exact rfl
    rw [e2]; rfl)
  cases hu
  exact ⟨d.map toXV, relA_plain hr, row_small⟩
end PM
end Go.Proofs.YtfkemeamimcnjaaDoor
