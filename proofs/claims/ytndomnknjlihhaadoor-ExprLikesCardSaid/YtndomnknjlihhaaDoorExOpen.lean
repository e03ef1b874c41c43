/- Values that came in. -/
import Derived.Test.YtndomnknjlihhaaDoorPmRd
import Derived.Test.YtndomnknjlihhaaDoorExP
set_option linter.unusedVariables false
set_option linter.unusedSimpArgs false
namespace Go.Proofs.YtndomnknjlihhaaDoor
open Go.RowKit Go.WideShapes
namespace PM
abbrev valueTy : Ty := (.st (.fcons 0 (.int .i64) (.fcons 1 .bool (.fcons 2 (.int .i64) (.fcons 3 .str .fnil)))))
theorem valueMt : Mt Tryd.prog valueTy (.inl 23) := ⟨_, Tryd.underlying23, by kernel_rfl, ⟨_, rfl, rfl, ⟨Tryd.underlying3, by kernel_rfl⟩, ⟨_, rfl, rfl, ⟨Tryd.underlying4, by kernel_rfl⟩, ⟨_, rfl, rfl, ⟨Tryd.underlying2, by kernel_rfl⟩, ⟨_, rfl, rfl, ⟨Tryd.underlying9, by kernel_rfl⟩, trivial⟩⟩⟩⟩⟩
def numsC (s : ByteArray) : List Int := s.data.toList.map fun b => (b.toNat : Int)
abbrev ValD : Type := Int × Bool × Int × ByteArray × Unit
def toXV (d : ValD) : XV := ⟨d.1, d.2.1, d.2.2.1, numsC d.2.2.2.1⟩
def XV.cd (x : XV) : List DV := [.int .i64 x.ty, .bool x.null, .int .i64 x.n, .str x.s]
theorem toXV_c (d : ValD) : dvT valueTy d = (toXV d).cd := rfl
set_option maxRecDepth 100000 in
theorem value_open {w : World} {base : Nat} {r : Reach} {v : Value} {d : ValD} (hv : Value.okWide Tryd.prog w r base 23 v) (h : Rd w valueTy v.cells.toList d) : ∃ x : XV, RelA G0 nom w x.v v := by
  obtain ⟨⟨cs⟩, rfl, -⟩ := okWide_struct Tryd.underlying23 hv
  have h' := rd_agg' (cs := cs) (t := valueTy) rfl (by decide) h
  exact ⟨toXV d, h'⟩
theorem string_rel {w : World} (s : ByteArray) (h : s.size ≤ maxLen) : RelA G0 nom w (.d (.str (numsC s))) (.string s) := relA_d (relD_str s h)
end PM
end Go.Proofs.YtndomnknjlihhaaDoor
