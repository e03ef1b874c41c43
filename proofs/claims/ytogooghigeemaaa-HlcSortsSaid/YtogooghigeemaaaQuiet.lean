/- A region that draws its order: operations that only read, and calls that only make memory: one walk in the text's order. No program in sight. -/
import Derived.Test.YtogooghigeemaaaBase
namespace Go.Proofs.Ytogooghigeemaaa
open Go.RowKit
/-- w' is w with more (closed to simp) -/
def Ext (w w' : World) : Prop := Below w.heap.size w w'
theorem Ext.below {w w' : World} (h : Ext w w') : Below w.heap.size w w' := h
theorem Ext.cell {w w' : World} (h : Ext w w') {p : Addr} (hp : p.block < w.heap.size) : w'.cell? p = w.cell? p := h.below.cell hp
theorem Ext.frozen {w w' : World} (h : Ext w w') {p : Addr} (hp : p.block < w.heap.size) : w'.frozen? p = w.frozen? p := h.below.frozen hp
theorem ext_call {w W W' : World} (h : Ext w W) (hb : Below W.heap.size W W') : Ext w W' := bel_call h hb
theorem ext_refl (w : World) : Ext w w := Below.refl _ w
section
variable {P : Program} {ops : Array Oper} {C : World → Prop}
/-- one operation, its value v the same in every world of the class -/
theorem quiet_one {Q : Act → Prop} {a : Act} {o : Oper} {rest : List Oper} {w0 : World} (hC : C w0) (v : Value)
    (h : ∀ w', C w' → if Region.wanted o (yielded ops a.tmps) then Oper.quietUpon P C w' v ((execOp a.eval o).run P w') else v = undef)
    (hK : wpQuiet P ops C Q rest (a.put o.dst v)) : wpQuiet P ops C Q (o :: rest) a := by
  unfold wpQuiet
  by_cases hw : Region.wanted o (yielded ops a.tmps) = true
  · rw [if_pos hw]
    refine ⟨v, fun w' hw' => ?_, hK⟩
    have := h w' hw'
    rw [if_pos hw] at this
    exact this
  · rw [if_neg hw]
    have := h w0 hC
    rw [if_neg hw] at this
    subst this
    exact hK
theorem quiet_ex {Q : Act → Prop} {a : Act} {o : Oper} {rest : List Oper} {w0 : World} (hC : C w0)
    (h : ∃ v, (∀ w', C w' → if Region.wanted o (yielded ops a.tmps) then Oper.quietUpon P C w' v ((execOp a.eval o).run P w') else v = undef) ∧ wpQuiet P ops C Q rest (a.put o.dst v)) : wpQuiet P ops C Q (o :: rest) a :=
  let ⟨v, h1, h2⟩ := h
  quiet_one hC v h1 h2
theorem quiet_ext {Q : Act → Prop} {a : Act} {o : Oper} {rest : List Oper} {W : World}
    (h : ∃ v, (∀ w', Ext W w' → if Region.wanted o (yielded ops a.tmps) then Oper.quietUpon P (Ext W) w' v ((execOp a.eval o).run P w') else v = undef) ∧ wpQuiet P ops (Ext W) Q rest (a.put o.dst v)) : wpQuiet P ops (Ext W) Q (o :: rest) a :=
  quiet_ex (ext_refl W) h
/-- the class: what was there stays -/
theorem wp_region_below {id : Nat} {Q : Exit → Act → World → Prop} {a : Act} {w : World} {l : List Oper} (hm : P.follows .mixedOrders = true) (hB : Region.lexB .any l.toArray = true)
    (h : wpQuiet P l.toArray (Ext w) (fun a' => ∀ w', Ext w w' → Q .normal a' w') l a) : (Code.region id l.toArray true).wp P Q a w :=
  wp_region_quiet (C := Ext w) hm hB ((Below.refl _ w).drew) (by simpa using h)
end
end Go.Proofs.Ytogooghigeemaaa
