/- A server's message that came in. -/
import Derived.Test.YthaekefdadccaaaDoorPmRd
import Derived.Test.YthaekefdadccaaaDoorPgBk
import Derived.Test.YthaekefdadccaaaDoorUpto
namespace Go.Proofs.YthaekefdadccaaaDoor
open Go.RowKit Go.WideShapes
namespace PM
abbrev backTy : Ty := (.st (.fcons 0 (.int .i64) (.fcons 1 .str (.fcons 2 .str (.fcons 3 (.int .i64) (.fcons 4 (.int .i64) (.fcons 5 (.int .u8) (.fcons 6 (.sl 24 (.st (.fcons 0 .str (.fcons 1 (.int .i64) .fnil)))) (.fcons 7 (.sl 24 (.st (.fcons 0 .bool (.fcons 1 .str .fnil)))) (.fcons 8 .str (.fcons 9 .bool .fnil)))))))))))
theorem backMt : Mt Tryd.prog backTy (.inl 35) := ⟨_, Tryd.underlying35, by kernel_rfl, ⟨_, rfl, rfl, ⟨Tryd.underlying3, by kernel_rfl⟩, ⟨_, rfl, rfl, ⟨Tryd.underlying9, by kernel_rfl⟩, ⟨_, rfl, rfl, ⟨Tryd.underlying9, by kernel_rfl⟩, ⟨_, rfl, rfl, ⟨Tryd.underlying3, by kernel_rfl⟩, ⟨_, rfl, rfl, ⟨Tryd.underlying3, by kernel_rfl⟩, ⟨_, rfl, rfl, ⟨Tryd.underlying5, by kernel_rfl⟩, ⟨_, rfl, rfl, ⟨_, Tryd.underlying32, by kernel_rfl, ⟨by decide, by kernel_rfl⟩, ⟨_, Tryd.underlying86, by kernel_rfl, ⟨_, rfl, rfl, ⟨Tryd.underlying9, by kernel_rfl⟩, ⟨_, rfl, rfl, ⟨Tryd.underlying3, by kernel_rfl⟩, trivial⟩⟩⟩⟩, ⟨_, rfl, rfl, ⟨_, Tryd.underlying33, by kernel_rfl, ⟨by decide, by kernel_rfl⟩, ⟨_, Tryd.underlying52, by kernel_rfl, ⟨_, rfl, rfl, ⟨Tryd.underlying4, by kernel_rfl⟩, ⟨_, rfl, rfl, ⟨Tryd.underlying9, by kernel_rfl⟩, trivial⟩⟩⟩⟩, ⟨_, rfl, rfl, ⟨Tryd.underlying9, by kernel_rfl⟩, ⟨_, rfl, rfl, ⟨Tryd.underlying4, by kernel_rfl⟩, trivial⟩⟩⟩⟩⟩⟩⟩⟩⟩⟩⟩
def numsC (s : ByteArray) : List Int := s.data.toList.map fun b => (b.toNat : Int)
abbrev BackD : Type := Int × ByteArray × ByteArray × Int × Int × Int × List (ByteArray × Int × Unit) × List (Bool × ByteArray × Unit) × ByteArray × Bool × Unit
def toB (d : BackD) : Back := ⟨d.1, numsC d.2.1, numsC d.2.2.1, d.2.2.2.1, d.2.2.2.2.1, d.2.2.2.2.2.1, d.2.2.2.2.2.2.1.map fun p => (numsC p.1, p.2.1), d.2.2.2.2.2.2.2.1.map fun p => (p.1, numsC p.2.1), numsC d.2.2.2.2.2.2.2.2.1, d.2.2.2.2.2.2.2.2.2.1⟩
theorem toB_c (d : BackD) : dvT backTy d = (toB d).c := by
  obtain ⟨k, n, t, p, s, c, fs, cs, a, g, u⟩ := d
  show [DV.int .i64 k, .str (numsC n), .str (numsC t), .int .i64 p, .int .i64 s, .int .u8 c, .sl 2 (fs.map fun x => [DV.str (numsC x.1), .int .i64 x.2.1]), .sl 2 (cs.map fun x => [DV.bool x.1, .str (numsC x.2.1)]), .str (numsC a), .bool g] = _
  simp [toB, Back.c, encL, fldC, celC, List.map_map, Function.comp_def]
theorem numsC_len (s : ByteArray) : (numsC s).length = s.size := by
  unfold numsC
  rw [List.length_map]
  exact s.data.length_toList
set_option maxRecDepth 100000 in
theorem back_rel {w : World} {base : Nat} {r : Reach} {v : Value} {d : BackD} (hv : Value.okWide Tryd.prog w r base 35 v) (h : Rd w backTy v.cells.toList d) : RelA G0 nom w (toB d).v v := by
  obtain ⟨⟨cs⟩, rfl, -⟩ := okWide_struct Tryd.underlying35 hv
  have h' := rd_agg' (cs := cs) (t := backTy) rfl (by decide) h
  have e : ((dvT backTy d).map AV.d) = (toB d).c.map AV.d := by rw [toB_c]
  unfold Back.v
  rw [← e]
  exact h'
theorem back_small {d : BackD} (h : Bulk backTy d ≤ 1048576) : backSmall (toB d) := by
  obtain ⟨k, n, t, p, s, c, fs, cs, a, g, u⟩ := d
  have e1 : Bulk backTy (k, n, t, p, s, c, fs, cs, a, g, u) = (1 + ((n.size + 1) + ((t.size + 1) + (1 + (1 + (1 + (((fs.map fun x : ByteArray × Int × Unit => ((x.1.size + 1) + (1 + 0)) + 1).sum + 1) + (((cs.map fun x : Bool × ByteArray × Unit => (1 + ((x.2.1.size + 1) + 0)) + 1).sum + 1) + ((a.size + 1) + (1 + 0)))))))))) + 1 := rfl
  replace h := Nat.le_trans (Nat.le_of_eq e1.symm) h
  have e2 : ∀ l : List (ByteArray × Int × Unit), (fldsF (l.map fun p => (numsC p.1, p.2.1))).length ≤ 20 * (l.map fun x : ByteArray × Int × Unit => ((x.1.size + 1) + (1 + 0)) + 1).sum := by
    intro l
    induction l with
    | nil => simp [fldsF]
    | cons x l ih =>
      unfold fldsF at ih ⊢
      simp only [List.map_cons, List.flatten_cons, List.length_append, List.sum_cons, numsC_len, fldB_len] at ih ⊢
      omega
  have e3 : ∀ l : List (Bool × ByteArray × Unit), 4 * l.length + celsT (l.map fun p => (p.1, numsC p.2.1)) ≤ 20 * (l.map fun x : Bool × ByteArray × Unit => (1 + ((x.2.1.size + 1) + 0)) + 1).sum := by
    intro l
    induction l with
    | nil => simp [celsT]
    | cons x l ih =>
      unfold celsT at ih ⊢
      simp only [List.map_cons, List.sum_cons, numsC_len, List.length_cons] at ih ⊢
      omega
  have h2 := e2 fs
  have h3 := e3 cs
  refine ⟨?_, ?_, ?_, ?_, ?_⟩
  · show (fldsF (fs.map fun p => (numsC p.1, p.2.1))).length ≤ _
    omega
  · show celsN (cs.map fun p => (p.1, numsC p.2.1)) ≤ _
    unfold celsN
    rw [List.length_map]
    omega
  · show (numsC n).length ≤ _
    rw [numsC_len]; omega
  · show (numsC t).length ≤ _
    rw [numsC_len]; omega
  · show (numsC a).length ≤ _
    rw [numsC_len]; omega
set_option maxRecDepth 100000 in
theorem back_open {w : World} {base : Nat} {r : Reach} {v : Value} {d : BackD} (hv : Value.okWide Tryd.prog w r base 35 v) (h : Rd w backTy v.cells.toList d) : ∃ f : Back, RelA G0 nom w f.v v ∧ (Bulk backTy d ≤ 1048576 → backSmall f) :=
  ⟨toB d, back_rel hv h, back_small⟩
end PM
end Go.Proofs.YthaekefdadccaaaDoor
