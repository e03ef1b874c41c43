/- A client's message that came in. -/
import Derived.Test.YthaekefdadccaaaDoorPmRd
import Derived.Test.YthaekefdadccaaaDoorPgB
import Derived.Test.YthaekefdadccaaaDoorUpto
namespace Go.Proofs.YthaekefdadccaaaDoor
open Go.RowKit Go.WideShapes
namespace PM
abbrev frontTy : Ty := (.st (.fcons 0 (.int .i64) (.fcons 1 (.sl 32 (.st (.fcons 0 .str (.fcons 1 .str .fnil)))) (.fcons 2 .str (.fcons 3 (.int .i64) (.fcons 4 (.int .i64) (.fcons 5 (.int .u8) .fnil)))))))
theorem frontMt : Mt Tryd.prog frontTy (.inl 26) := ⟨_, Tryd.underlying26, by kernel_rfl, ⟨_, rfl, rfl, ⟨Tryd.underlying3, by kernel_rfl⟩, ⟨_, rfl, rfl, ⟨_, Tryd.underlying24, by kernel_rfl, ⟨by decide, by kernel_rfl⟩, ⟨_, Tryd.underlying64, by kernel_rfl, ⟨_, rfl, rfl, ⟨Tryd.underlying9, by kernel_rfl⟩, ⟨_, rfl, rfl, ⟨Tryd.underlying9, by kernel_rfl⟩, trivial⟩⟩⟩⟩, ⟨_, rfl, rfl, ⟨Tryd.underlying9, by kernel_rfl⟩, ⟨_, rfl, rfl, ⟨Tryd.underlying3, by kernel_rfl⟩, ⟨_, rfl, rfl, ⟨Tryd.underlying3, by kernel_rfl⟩, ⟨_, rfl, rfl, ⟨Tryd.underlying5, by kernel_rfl⟩, trivial⟩⟩⟩⟩⟩⟩⟩
def numsB (s : ByteArray) : List Int := s.data.toList.map fun b => (b.toNat : Int)
abbrev FrontD : Type := Int × List (ByteArray × ByteArray × Unit) × ByteArray × Int × Int × Int × Unit
def toF (d : FrontD) : Front := ⟨d.1, d.2.1.map fun p => (numsB p.1, numsB p.2.1), numsB d.2.2.1, d.2.2.2.1, d.2.2.2.2.1, d.2.2.2.2.2.1⟩
theorem toF_c (d : FrontD) : dvT frontTy d = (toF d).c := by
  obtain ⟨k, ps, t, p, s, g, u⟩ := d
  show [DV.int .i64 k, .sl 2 (ps.map fun x => [DV.str (numsB x.1), .str (numsB x.2.1)]), .str (numsB t), .int .i64 p, .int .i64 s, .int .u8 g] = _
  simp [toF, Front.c, encL, prmC, List.map_map, Function.comp_def]
theorem numsB_len (s : ByteArray) : (numsB s).length = s.size := by
  unfold numsB
  rw [List.length_map]
  exact s.data.length_toList
set_option maxRecDepth 100000 in
theorem front_rel {w : World} {base : Nat} {r : Reach} {v : Value} {d : FrontD} (hv : Value.okWide Tryd.prog w r base 26 v) (h : Rd w frontTy v.cells.toList d) : RelA G0 nom w (toF d).v v := by
  obtain ⟨⟨cs⟩, rfl, -⟩ := okWide_struct Tryd.underlying26 hv
  have h' := rd_agg' (cs := cs) (t := frontTy) rfl (by decide) h
  have e : ((dvT frontTy d).map AV.d) = (toF d).c.map AV.d := by rw [toF_c]
  unfold Front.v
  rw [← e]
  exact h'
theorem bulk_fc {off : Nat} {a r : Ty} (d : (Ty.fcons off a r).D) : Bulk (.fcons off a r) d = Bulk a d.1 + Bulk r d.2 := by rw [Bulk]
theorem front_small {d : FrontD} (h : Bulk frontTy d ≤ 1048576) : (prmB (toF d).params).length ≤ 100000000000 ∧ (toF d).text.length ≤ 100000000000 := by
  obtain ⟨k, ps, t, p, s, g, u⟩ := d
  have e1 : Bulk frontTy (k, ps, t, p, s, g, u) = (1 + (((ps.map fun x : ByteArray × ByteArray × Unit => ((x.1.size + 1) + ((x.2.1.size + 1) + 0)) + 1).sum + 1) + ((t.size + 1) + (1 + (1 + (1 + 0)))))) + 1 := rfl
  replace h := Nat.le_trans (Nat.le_of_eq e1.symm) h
  have e2 : ∀ l : List (ByteArray × ByteArray × Unit), (prmB (l.map fun p => (numsB p.1, numsB p.2.1))).length ≤ (l.map fun x : ByteArray × ByteArray × Unit => ((x.1.size + 1) + ((x.2.1.size + 1) + 0)) + 1).sum := by
    intro l
    induction l with
    | nil => simp [prmB]
    | cons x l ih =>
      unfold prmB at ih ⊢
      simp only [List.map_cons, List.flatten_cons, List.length_append, List.sum_cons, numsB_len, List.length_cons, List.length_nil] at ih ⊢
      omega
  have e3 := e2 ps
  have e4 : (toF (k, ps, t, p, s, g, u)).text.length = t.size := numsB_len t
  have e5 : (toF (k, ps, t, p, s, g, u)).params = ps.map fun p => (numsB p.1, numsB p.2.1) := rfl
  rw [e4, e5]
  omega
set_option maxRecDepth 100000 in
theorem front_open {w : World} {base : Nat} {r : Reach} {v : Value} {d : FrontD} (hv : Value.okWide Tryd.prog w r base 26 v) (h : Rd w frontTy v.cells.toList d) : ∃ f : Front, RelA G0 nom w f.v v ∧ (Bulk frontTy d ≤ 1048576 → (prmB f.params).length ≤ 100000000000 ∧ f.text.length ≤ 100000000000) :=
  ⟨toF d, front_rel hv h, front_small⟩
end PM
end Go.Proofs.YthaekefdadccaaaDoor
