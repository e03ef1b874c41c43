/- sstable: an entry is read off a block's body (walk). -/
import Derived.Test.YtmojbamloanleaaSs14
import Derived.Test.YtmojbamloanleaaCodecLent
import Derived.Test.YtmojbamloanleaaCat
import Derived.Test.YtmojbamloanleaaCodecTF
import Derived.ScopeJumps
import Derived.WalkMore
import Derived.Lib.BufferMore
import Derived.StillTailTactics
import Derived.Deep.DeepCutAuto
set_option linter.unusedVariables false
set_option linter.unusedSimpArgs false
namespace Go.Proofs.Ytmojbamloanleaa
open Go.RowKit
namespace Ss
open Mt Codec
/-- a scope with a label at its end, to which the run jumps forward: at every jump what stands behind the label is walked -/
theorem wp_scope_fwd {P : Program} {a : Act} {w : World} {Q : Exit → Act → World → Prop} {c rest : Code} (l : Nat) (hf : findLabel c l = some rest)
    (h : c.wp P (Exit.jump l (fun a w => rest.wp P (Exit.noGoto Q) a w) Q) a w) : (Code.scope c).wp P Q a w :=
  wp_scope_jumps l (fun a w => rest.wp P (Exit.noGoto Q) a w) (fun _ _ => 0) hf h (fun a w hJ => Code.wp_mono (fun e a' w' h' => by
    cases e <;> first | exact h' | exact (h' : False).elim) hJ)
/-- a number, and what stands behind it -/
def numF (b : List Int) : Option (Int × List Int) := if (takeN b).2.2 = 0 then some ((takeN b).1, b.drop (takeN b).2.1.toNat) else none
/-- what stands behind three numbers: the byte that tells whether it is deleted, the value's length, the bytes -/
def restF (ahead : List Int) (n0 n1 n2 : Int) : List Int → Option (En × List Int)
  | [] => none
  | d :: b => if 1 < d then none else
    match numF b with
    | none => none
    | some (n3, b) => if (ahead.length : Int) < n0 ∨ (b.length : Int) < n1 ∨ (b.length : Int) - n1 < n3 then none else
      some ((ahead.take n0.toNat ++ b.take n1.toNat, n2, decide (d = 1), (b.drop n1.toNat).take n3.toNat), (b.drop n1.toNat).drop n3.toNat)
/-- an entry off a block's body, behind a key; what is left -/
def entryF (b ahead : List Int) : Option (En × List Int) :=
  match numF b with
  | none => none
  | some (n0, b) => match numF b with
    | none => none
    | some (n1, b) => match numF b with
      | none => none
      | some (n2, b) => restF ahead n0 n1 n2 b
def EntryP (bv : Value) (b ahead : List Int) (w : World) (e : Ending) (w' : World) : Prop :=
  match entryF b ahead with
  | none => e = .returned (.tuple #[.agg #[.slice none 0 0, .int .u64 0, .bool false, .slice none 0 0], .slice none 0 0, .bool false]) ∧ Below w.heap.size w w'
  | some (x, r) => ∃ kv vv rv, e = .returned (.tuple #[.agg #[kv, .int .u64 x.2.1, .bool x.2.2.1, vv], rv, .bool true]) ∧ OwnS w' w.heap.size 5 kv x.1 ∧ OwnS w' w.heap.size 5 vv x.2.2.2 ∧ IsB w' rv r ∧ (∀ W, IsB W bv b → IsB W rv r) ∧ U64 x.2.1 ∧ Below w.heap.size w w'
/-- the boxes of entry -/
structure EnI (w W : World) (del : Bool) (n0 n1 n2 n3 : Int) : Prop where
  bel : Below w.heap.size w W
  h0 : W.heap[w.heap.size]? = some (.cells #[.slice none 0 0, .int .u64 0, .bool false, .slice none 0 0] 46 (0, 0))
  h1 : W.heap[w.heap.size + 1]? = some (.cells #[.slice none 0 0, .int .u64 0, .bool del, .slice none 0 0] 46 (0, 0))
  h2 : W.heap[w.heap.size + 1 + 1]? = some (.cells #[.int .u64 n0, .int .u64 n1, .int .u64 n2, .int .u64 n3] 123 (0, 0))
theorem EnI.start (w : World) : EnI w (((w.alloc (.cells #[.slice none 0 0, .int .u64 0, .bool false, .slice none 0 0] 46)).alloc (.cells #[.slice none 0 0, .int .u64 0, .bool false, .slice none 0 0] 46)).alloc (.cells #[.int .u64 0, .int .u64 0, .int .u64 0, .int .u64 0] 123)) false 0 0 0 0 := by
  refine ⟨bel_alloc (bel_alloc (bel_alloc (Below.refl _ w) _) _) _, ?_, ?_, ?_⟩
  · rw [Below.heap_alloc _ _ _ (by simp <;> omega), Below.heap_alloc _ _ _ (by simp <;> omega)]
    exact heap_alloc_new w _
  · rw [Below.heap_alloc _ _ _ (by simp <;> omega)]
    have := heap_alloc_new (w.alloc (.cells #[.slice none 0 0, .int .u64 0, .bool false, .slice none 0 0] 46)) (.cells #[.slice none 0 0, .int .u64 0, .bool false, .slice none 0 0] 46 (0, 0))
    rw [World.size_alloc] at this
    exact this
  · have := heap_alloc_new ((w.alloc (.cells #[.slice none 0 0, .int .u64 0, .bool false, .slice none 0 0] 46)).alloc (.cells #[.slice none 0 0, .int .u64 0, .bool false, .slice none 0 0] 46)) (.cells #[.int .u64 0, .int .u64 0, .int .u64 0, .int .u64 0] 123 (0, 0))
    rw [World.size_alloc, World.size_alloc] at this
    exact this
section
variable {w W W' : World} {del : Bool} {n0 n1 n2 n3 : Int}
theorem EnI.c20 (h : EnI w W del n0 n1 n2 n3) : W.cell? ⟨w.heap.size + 1 + 1, 0, none⟩ = some (.int .u64 n0) := (cell_of_row _ _ _ _ _ _ h.h2).trans rfl
theorem EnI.c21 (h : EnI w W del n0 n1 n2 n3) : W.cell? ⟨w.heap.size + 1 + 1, 1, none⟩ = some (.int .u64 n1) := (cell_of_row _ _ _ _ _ _ h.h2).trans rfl
theorem EnI.c22 (h : EnI w W del n0 n1 n2 n3) : W.cell? ⟨w.heap.size + 1 + 1, 2, none⟩ = some (.int .u64 n2) := (cell_of_row _ _ _ _ _ _ h.h2).trans rfl
theorem EnI.c23 (h : EnI w W del n0 n1 n2 n3) : W.cell? ⟨w.heap.size + 1 + 1, 3, none⟩ = some (.int .u64 n3) := (cell_of_row _ _ _ _ _ _ h.h2).trans rfl
theorem EnI.below (h : EnI w W del n0 n1 n2 n3) (hb : Below W.heap.size W W') : EnI w W' del n0 n1 n2 n3 :=
  ⟨bel_call h.bel hb, (hb.block _ (Array.getElem?_eq_some_iff.1 h.h0).1).trans h.h0, (hb.block _ (Array.getElem?_eq_some_iff.1 h.h1).1).trans h.h1, (hb.block _ (Array.getElem?_eq_some_iff.1 h.h2).1).trans h.h2⟩
theorem EnI.set20 (h : EnI w W del n0 n1 n2 n3) (x : Int) : EnI w (W.setCell ⟨w.heap.size + 1 + 1, 0, none⟩ (.int .u64 x)) del x n1 n2 n3 :=
  ⟨h.bel.setCell (by simp only; omega) _, (Below.heap_setCell _ _ _ _ (by simp only; omega)).trans h.h0, (Below.heap_setCell _ _ _ _ (by simp only; omega)).trans h.h1, heap_setCell_same _ _ _ _ _ _ h.h2⟩
theorem EnI.set21 (h : EnI w W del n0 n1 n2 n3) (x : Int) : EnI w (W.setCell ⟨w.heap.size + 1 + 1, 1, none⟩ (.int .u64 x)) del n0 x n2 n3 :=
  ⟨h.bel.setCell (by simp only; omega) _, (Below.heap_setCell _ _ _ _ (by simp only; omega)).trans h.h0, (Below.heap_setCell _ _ _ _ (by simp only; omega)).trans h.h1, heap_setCell_same _ _ _ _ _ _ h.h2⟩
theorem EnI.set22 (h : EnI w W del n0 n1 n2 n3) (x : Int) : EnI w (W.setCell ⟨w.heap.size + 1 + 1, 2, none⟩ (.int .u64 x)) del n0 n1 x n3 :=
  ⟨h.bel.setCell (by simp only; omega) _, (Below.heap_setCell _ _ _ _ (by simp only; omega)).trans h.h0, (Below.heap_setCell _ _ _ _ (by simp only; omega)).trans h.h1, heap_setCell_same _ _ _ _ _ _ h.h2⟩
theorem EnI.set23 (h : EnI w W del n0 n1 n2 n3) (x : Int) : EnI w (W.setCell ⟨w.heap.size + 1 + 1, 3, none⟩ (.int .u64 x)) del n0 n1 n2 x :=
  ⟨h.bel.setCell (by simp only; omega) _, (Below.heap_setCell _ _ _ _ (by simp only; omega)).trans h.h0, (Below.heap_setCell _ _ _ _ (by simp only; omega)).trans h.h1, heap_setCell_same _ _ _ _ _ _ h.h2⟩
theorem EnI.setDel (h : EnI w W del n0 n1 n2 n3) (d : Bool) : EnI w (W.setCell ⟨w.heap.size + 1, 2, none⟩ (.bool d)) d n0 n1 n2 n3 :=
  ⟨h.bel.setCell (by simp only; omega) _, (Below.heap_setCell _ _ _ _ (by simp only; omega)).trans h.h0, heap_setCell_same _ _ _ _ _ _ h.h1, (Below.heap_setCell _ _ _ _ (by simp only; omega)).trans h.h2⟩
end
/-- the boxes of entry, with its key, Seq and value -/
structure EnK (w W : World) (del : Bool) (n0 n1 n2 n3 : Int) (kv : Value) (seq : Int) (vv : Value) : Prop where
  bel : Below w.heap.size w W
  h0 : W.heap[w.heap.size]? = some (.cells #[.slice none 0 0, .int .u64 0, .bool false, .slice none 0 0] 46 (0, 0))
  h1 : W.heap[w.heap.size + 1]? = some (.cells #[kv, .int .u64 seq, .bool del, vv] 46 (0, 0))
  h2 : W.heap[w.heap.size + 1 + 1]? = some (.cells #[.int .u64 n0, .int .u64 n1, .int .u64 n2, .int .u64 n3] 123 (0, 0))
section
variable {w W W' : World} {del : Bool} {n0 n1 n2 n3 seq : Int} {kv vv : Value}
theorem EnI.setSeq (h : EnI w W del n0 n1 n2 n3) (x : Int) : EnK w (W.setCell ⟨w.heap.size + 1, 1, none⟩ (.int .u64 x)) del n0 n1 n2 n3 (.slice none 0 0) x (.slice none 0 0) :=
  ⟨h.bel.setCell (by simp only; omega) _, (Below.heap_setCell _ _ _ _ (by simp only; omega)).trans h.h0, heap_setCell_same _ _ _ _ _ _ h.h1, (Below.heap_setCell _ _ _ _ (by simp only; omega)).trans h.h2⟩
theorem EnK.c20 (h : EnK w W del n0 n1 n2 n3 kv seq vv) : W.cell? ⟨w.heap.size + 1 + 1, 0, none⟩ = some (.int .u64 n0) := (cell_of_row _ _ _ _ _ _ h.h2).trans rfl
theorem EnK.c21 (h : EnK w W del n0 n1 n2 n3 kv seq vv) : W.cell? ⟨w.heap.size + 1 + 1, 1, none⟩ = some (.int .u64 n1) := (cell_of_row _ _ _ _ _ _ h.h2).trans rfl
theorem EnK.c23 (h : EnK w W del n0 n1 n2 n3 kv seq vv) : W.cell? ⟨w.heap.size + 1 + 1, 3, none⟩ = some (.int .u64 n3) := (cell_of_row _ _ _ _ _ _ h.h2).trans rfl
theorem EnK.below (h : EnK w W del n0 n1 n2 n3 kv seq vv) (hb : Below W.heap.size W W') : EnK w W' del n0 n1 n2 n3 kv seq vv :=
  ⟨bel_call h.bel hb, (hb.block _ (Array.getElem?_eq_some_iff.1 h.h0).1).trans h.h0, (hb.block _ (Array.getElem?_eq_some_iff.1 h.h1).1).trans h.h1, (hb.block _ (Array.getElem?_eq_some_iff.1 h.h2).1).trans h.h2⟩
theorem EnK.setK (h : EnK w W del n0 n1 n2 n3 kv seq vv) (v : Value) : EnK w (W.setCell ⟨w.heap.size + 1, 0, none⟩ v) del n0 n1 n2 n3 v seq vv :=
  ⟨h.bel.setCell (by simp only; omega) _, (Below.heap_setCell _ _ _ _ (by simp only; omega)).trans h.h0, heap_setCell_same _ _ _ _ _ _ h.h1, (Below.heap_setCell _ _ _ _ (by simp only; omega)).trans h.h2⟩
theorem EnK.setV (h : EnK w W del n0 n1 n2 n3 kv seq vv) (v : Value) : EnK w (W.setCell ⟨w.heap.size + 1, 3, none⟩ v) del n0 n1 n2 n3 kv seq v :=
  ⟨h.bel.setCell (by simp only; omega) _, (Below.heap_setCell _ _ _ _ (by simp only; omega)).trans h.h0, heap_setCell_same _ _ _ _ _ _ h.h1, (Below.heap_setCell _ _ _ _ (by simp only; omega)).trans h.h2⟩
end
set_option maxRecDepth 100000 in
set_option maxHeartbeats 8000000 in
theorem entry_any (bv av : Value) (b ahead : List Int) (w : World) (hb : IsB w bv b) (ha : IsB w av ahead) (hlen : ahead.length + b.length ≤ 70368744177664) :
    Calls Try.prog 71 #[bv, av] w (EntryP bv b ahead w) := by
  obtain ⟨bo, bc, rfl, bl1, -, -⟩ := hb.form
  obtain ⟨ao, ac, rfl, al1, -, -⟩ := ha.form
  have Hb := Lib.hid hb
  have Pb : Hid (∀ W, IsB W (.slice bo b.length bc) b → IsB W (.slice bo b.length bc) b) := Lib.hid (fun _ h => h)
  have Ha := Lib.hid ha
  clear hb ha
  go_enter Try.func71, Try.ntmps71
  go_wp2_with fail
  refine wp_scope_fwd 0 rfl ?_
  go_wp2_with fail
  refine wp_loop_rounds 5 ?_
  rw [rounds_succ]; go_wp2_with fail
  have E0 : Hid (EnI w (((w.alloc (.cells #[.slice none 0 0, .int .u64 0, .bool false, .slice none 0 0] 46)).alloc (.cells #[.slice none 0 0, .int .u64 0, .bool false, .slice none 0 0] 46)).alloc (.cells #[.int .u64 0, .int .u64 0, .int .u64 0, .int .u64 0] 123)) false 0 0 0 0) := Lib.hid (EnI.start w)
  generalize (((w.alloc (.cells #[.slice none 0 0, .int .u64 0, .bool false, .slice none 0 0] 46)).alloc (.cells #[.slice none 0 0, .int .u64 0, .bool false, .slice none 0 0] 46)).alloc (.cells #[.int .u64 0, .int .u64 0, .int .u64 0, .int .u64 0] 123)) = W0 at E0 ⊢
  refine (takeNumber_any _ b W0 (Hb.out.below E0.out.bel)).mono ?_
  rintro e w' ⟨rfl, rfl⟩
  obtain ⟨⟨n00, n01⟩, ⟨k00, k01⟩, -⟩ := takeN_bd Hb.out.rng
  have HN0 : Hid (numF b = if (takeN b).2.2 = 0 then some ((takeN b).1, b.drop (takeN b).2.1.toNat) else none) := Lib.hid rfl
  obtain ⟨x0, k0, c0, hT⟩ : ∃ x k c, takeN b = (x, k, c) := ⟨_, _, _, rfl⟩
  rw [hT] at n00 n01 k00 k01 HN0 ⊢
  clear hT
  simp only at n00 n01 k00 k01 HN0 ⊢
  have HX0 : Hid (U64 x0) := Lib.hid (by unfold U64; omega)
  by_cases hc0 : c0 = 0
  · subst hc0
    obtain ⟨k0, rfl⟩ := Int.eq_ofNat_of_zero_le k00
    rw [if_pos rfl] at HN0
    have z0 := E0.out.c20
    have f0 := frozen_of_row _ _ 0 _ _ E0.out.h2
    have i0 : (k0 : Int) ≤ b.length := k01
    have i1 : (k0 : Int) ≤ bc := by omega
    have i2 : (0 : Int) ≤ (k0 : Int) := by omega
    go_wp2_with fail
    go_region_law fail
    obtain ⟨b1, hbb1⟩ : ∃ y, b.drop k0 = y := ⟨_, rfl⟩
    have hlb1 : b.length - k0 = b1.length := by rw [← hbb1, List.length_drop]
    obtain ⟨ob1, hob1⟩ : ∃ y, (if bc = k0 then bo else Option.map (fun x => x.add k0) bo) = y := ⟨_, rfl⟩
    obtain ⟨cb1, hcb1⟩ : ∃ y, bc - k0 = y := ⟨_, rfl⟩
    have Hb1 : Hid (IsB w (.slice ob1 b1.length cb1) b1) := Lib.hid (by
      have h9 := isB_suf (ao' := ob1) (n := k0) (k := b1.length) (cap' := cb1) Hb.out (by omega) hlb1.symm hcb1.symm (by
        by_cases h8 : bc = k0
        · rw [if_pos h8] at hob1
          exact .inl ⟨h8, hob1.symm⟩
        · rw [if_neg h8] at hob1
          exact .inr hob1.symm)
      rw [hbb1] at h9
      exact h9)
    have Pb1 : Hid (∀ W, IsB W (.slice bo b.length bc) b → IsB W (.slice ob1 b1.length cb1) b1) := Lib.hid (fun W hW => by
      have h9 := isB_suf (ao' := ob1) (n := k0) (k := b1.length) (cap' := cb1) (Pb.out W hW) (by omega) hlb1.symm hcb1.symm (by
        by_cases h8 : bc = k0
        · rw [if_pos h8] at hob1
          exact .inl ⟨h8, hob1.symm⟩
        · rw [if_neg h8] at hob1
          exact .inr hob1.symm)
      rw [hbb1] at h9
      exact h9)
    have alb1 : b1.length ≤ cb1 := by omega
    have hsb1 : b1.length ≤ b.length := by omega
    rw [hob1, hcb1, hlb1]
    clear hob1 hcb1
    have E1 : Hid (EnI w (W0.setCell ⟨w.heap.size + 1 + 1, 0, none⟩ (.int .u64 x0)).drew false x0 0 0 0) := Lib.hid ((E0.out.set20 x0).below (Below.refl _ _).drew)
    generalize (W0.setCell ⟨w.heap.size + 1 + 1, 0, none⟩ (.int .u64 x0)).drew = W1 at E1 ⊢
    have HN0' : Hid (numF b = some (x0, b1)) := Lib.hid (by rw [HN0.out]; exact congrArg (fun y => some (x0, y)) hbb1)
    clear z0 f0 i0 i1 i2 n00 n01 k00 k01 HN0 hbb1 hlb1
    go_wp2_with fail
    rw [rounds_succ]; go_wp2_with fail
    refine (takeNumber_any _ b1 W1 (Hb1.out.below E1.out.bel)).mono ?_
    rintro e w' ⟨rfl, rfl⟩
    obtain ⟨⟨n00, n01⟩, ⟨k00, k01⟩, -⟩ := takeN_bd Hb1.out.rng
    have HN1 : Hid (numF b1 = if (takeN b1).2.2 = 0 then some ((takeN b1).1, b1.drop (takeN b1).2.1.toNat) else none) := Lib.hid rfl
    obtain ⟨x1, k1, c1, hT⟩ : ∃ x k c, takeN b1 = (x, k, c) := ⟨_, _, _, rfl⟩
    rw [hT] at n00 n01 k00 k01 HN1 ⊢
    clear hT
    simp only at n00 n01 k00 k01 HN1 ⊢
    have HX1 : Hid (U64 x1) := Lib.hid (by unfold U64; omega)
    by_cases hc1 : c1 = 0
    · subst hc1
      obtain ⟨k1, rfl⟩ := Int.eq_ofNat_of_zero_le k00
      rw [if_pos rfl] at HN1
      have z0 := E1.out.c21
      have f0 := frozen_of_row _ _ 1 _ _ E1.out.h2
      have i0 : (k1 : Int) ≤ b1.length := k01
      have i1 : (k1 : Int) ≤ cb1 := by omega
      have i2 : (0 : Int) ≤ (k1 : Int) := by omega
      go_wp2_with fail
      go_region_law fail
      obtain ⟨b2, hbb2⟩ : ∃ y, b1.drop k1 = y := ⟨_, rfl⟩
      have hlb2 : b1.length - k1 = b2.length := by rw [← hbb2, List.length_drop]
      obtain ⟨ob2, hob2⟩ : ∃ y, (if cb1 = k1 then ob1 else Option.map (fun x => x.add k1) ob1) = y := ⟨_, rfl⟩
      obtain ⟨cb2, hcb2⟩ : ∃ y, cb1 - k1 = y := ⟨_, rfl⟩
      have Hb2 : Hid (IsB w (.slice ob2 b2.length cb2) b2) := Lib.hid (by
        have h9 := isB_suf (ao' := ob2) (n := k1) (k := b2.length) (cap' := cb2) Hb1.out (by omega) hlb2.symm hcb2.symm (by
          by_cases h8 : cb1 = k1
          · rw [if_pos h8] at hob2
            exact .inl ⟨h8, hob2.symm⟩
          · rw [if_neg h8] at hob2
            exact .inr hob2.symm)
        rw [hbb2] at h9
        exact h9)
      have Pb2 : Hid (∀ W, IsB W (.slice bo b.length bc) b → IsB W (.slice ob2 b2.length cb2) b2) := Lib.hid (fun W hW => by
        have h9 := isB_suf (ao' := ob2) (n := k1) (k := b2.length) (cap' := cb2) (Pb1.out W hW) (by omega) hlb2.symm hcb2.symm (by
          by_cases h8 : cb1 = k1
          · rw [if_pos h8] at hob2
            exact .inl ⟨h8, hob2.symm⟩
          · rw [if_neg h8] at hob2
            exact .inr hob2.symm)
        rw [hbb2] at h9
        exact h9)
      have alb2 : b2.length ≤ cb2 := by omega
      have hsb2 : b2.length ≤ b1.length := by omega
      rw [hob2, hcb2, hlb2]
      clear hob2 hcb2
      have E2 : Hid (EnI w (W1.setCell ⟨w.heap.size + 1 + 1, 1, none⟩ (.int .u64 x1)).drew false x0 x1 0 0) := Lib.hid ((E1.out.set21 x1).below (Below.refl _ _).drew)
      generalize (W1.setCell ⟨w.heap.size + 1 + 1, 1, none⟩ (.int .u64 x1)).drew = W2 at E2 ⊢
      have HN1' : Hid (numF b1 = some (x1, b2)) := Lib.hid (by rw [HN1.out]; exact congrArg (fun y => some (x1, y)) hbb2)
      clear z0 f0 i0 i1 i2 n00 n01 k00 k01 HN1 hbb2 hlb2
      go_wp2_with fail
      rw [rounds_succ]; go_wp2_with fail
      refine (takeNumber_any _ b2 W2 (Hb2.out.below E2.out.bel)).mono ?_
      rintro e w' ⟨rfl, rfl⟩
      obtain ⟨⟨n00, n01⟩, ⟨k00, k01⟩, -⟩ := takeN_bd Hb2.out.rng
      have HN2 : Hid (numF b2 = if (takeN b2).2.2 = 0 then some ((takeN b2).1, b2.drop (takeN b2).2.1.toNat) else none) := Lib.hid rfl
      obtain ⟨x2, k2, c2, hT⟩ : ∃ x k c, takeN b2 = (x, k, c) := ⟨_, _, _, rfl⟩
      rw [hT] at n00 n01 k00 k01 HN2 ⊢
      clear hT
      simp only at n00 n01 k00 k01 HN2 ⊢
      have HX2 : Hid (U64 x2) := Lib.hid (by unfold U64; omega)
      by_cases hc2 : c2 = 0
      · subst hc2
        obtain ⟨k2, rfl⟩ := Int.eq_ofNat_of_zero_le k00
        rw [if_pos rfl] at HN2
        have z0 := E2.out.c22
        have f0 := frozen_of_row _ _ 2 _ _ E2.out.h2
        have i0 : (k2 : Int) ≤ b2.length := k01
        have i1 : (k2 : Int) ≤ cb2 := by omega
        have i2 : (0 : Int) ≤ (k2 : Int) := by omega
        go_wp2_with fail
        go_region_law fail
        obtain ⟨b3, hbb3⟩ : ∃ y, b2.drop k2 = y := ⟨_, rfl⟩
        have hlb3 : b2.length - k2 = b3.length := by rw [← hbb3, List.length_drop]
        obtain ⟨ob3, hob3⟩ : ∃ y, (if cb2 = k2 then ob2 else Option.map (fun x => x.add k2) ob2) = y := ⟨_, rfl⟩
        obtain ⟨cb3, hcb3⟩ : ∃ y, cb2 - k2 = y := ⟨_, rfl⟩
        have Hb3 : Hid (IsB w (.slice ob3 b3.length cb3) b3) := Lib.hid (by
          have h9 := isB_suf (ao' := ob3) (n := k2) (k := b3.length) (cap' := cb3) Hb2.out (by omega) hlb3.symm hcb3.symm (by
            by_cases h8 : cb2 = k2
            · rw [if_pos h8] at hob3
              exact .inl ⟨h8, hob3.symm⟩
            · rw [if_neg h8] at hob3
              exact .inr hob3.symm)
          rw [hbb3] at h9
          exact h9)
        have Pb3 : Hid (∀ W, IsB W (.slice bo b.length bc) b → IsB W (.slice ob3 b3.length cb3) b3) := Lib.hid (fun W hW => by
          have h9 := isB_suf (ao' := ob3) (n := k2) (k := b3.length) (cap' := cb3) (Pb2.out W hW) (by omega) hlb3.symm hcb3.symm (by
            by_cases h8 : cb2 = k2
            · rw [if_pos h8] at hob3
              exact .inl ⟨h8, hob3.symm⟩
            · rw [if_neg h8] at hob3
              exact .inr hob3.symm)
          rw [hbb3] at h9
          exact h9)
        have alb3 : b3.length ≤ cb3 := by omega
        have hsb3 : b3.length ≤ b2.length := by omega
        rw [hob3, hcb3, hlb3]
        clear hob3 hcb3
        have E3 : Hid (EnI w (W2.setCell ⟨w.heap.size + 1 + 1, 2, none⟩ (.int .u64 x2)).drew false x0 x1 x2 0) := Lib.hid ((E2.out.set22 x2).below (Below.refl _ _).drew)
        generalize (W2.setCell ⟨w.heap.size + 1 + 1, 2, none⟩ (.int .u64 x2)).drew = W3 at E3 ⊢
        have HN2' : Hid (numF b2 = some (x2, b3)) := Lib.hid (by rw [HN2.out]; exact congrArg (fun y => some (x2, y)) hbb3)
        clear z0 f0 i0 i1 i2 n00 n01 k00 k01 HN2 hbb3 hlb3
        rcases b3 with _ | ⟨d, b4⟩
        · have HE : Hid (entryF b ahead = none) := Lib.hid (by unfold entryF; simp only [HN0'.out, HN1'.out, HN2'.out]; rfl)
          have a0 : W3.cell? ⟨w.heap.size, 0, none⟩ = some (.slice none 0 0) := (cell_of_row _ _ 0 _ _ _ E3.out.h0).trans rfl
          have g0 := frozen_of_row _ _ 0 _ _ E3.out.h0
          have a1 : W3.cell? ⟨w.heap.size, 1, none⟩ = some (.int .u64 0) := (cell_of_row _ _ 1 _ _ _ E3.out.h0).trans rfl
          have g1 := frozen_of_row _ _ 1 _ _ E3.out.h0
          have a2 : W3.cell? ⟨w.heap.size, 2, none⟩ = some (.bool false) := (cell_of_row _ _ 2 _ _ _ E3.out.h0).trans rfl
          have g2 := frozen_of_row _ _ 2 _ _ E3.out.h0
          have a3 : W3.cell? ⟨w.heap.size, 3, none⟩ = some (.slice none 0 0) := (cell_of_row _ _ 3 _ _ _ E3.out.h0).trans rfl
          have g3 := frozen_of_row _ _ 3 _ _ E3.out.h0
          go_wp2_with fail
          rw [rounds_succ]; go_wp2_with fail
          refine wp_goto ?_
          refine And.intro rfl ?_
          go_wp2_with fail
          try rw [Exit.noGoto_ret]
          refine bodyPost_ret (v := .tuple #[.agg #[.slice none 0 0, .int .u64 0, .bool false, .slice none 0 0], .slice none 0 0, .bool false]) (by first | (simp [results, Try.results71, go_sem]; done) | (simp [results, Try.results71, go_sem]; go_simp)) rfl ?_
          unfold EntryP
          rw [HE.out]
          exact ⟨rfl, by first | exact (((E3.out.bel.setCell (Nat.le_refl _) _).setCell (Nat.le_refl _) _).setCell (Nat.le_refl _) _).setCell (Nat.le_refl _) _ | exact E3.out.bel⟩
        · obtain ⟨gb, gf, y, rfl, hlt, hget, cd, hd0, hd1⟩ := Hb3.out.at_ (k := 0) (by simp)
          have hyd : d = y := by simpa using hget.out
          subst hyd
          have cd3 : W3.cell? ⟨gb, gf, none⟩ = some (.int .u8 d) := (E3.out.bel.cell (p := ⟨gb, gf + 0, none⟩) hlt).trans cd
          have j0 : (((d :: b4).length : Nat) : Int) = (b4.length : Int) + 1 := by simp
          clear hget cd
          by_cases hd : 1 < d
          · have HE : Hid (entryF b ahead = none) := Lib.hid (by unfold entryF; simp only [HN0'.out, HN1'.out, HN2'.out]; unfold restF; dsimp only; rw [if_pos hd])
            have a0 : W3.cell? ⟨w.heap.size, 0, none⟩ = some (.slice none 0 0) := (cell_of_row _ _ 0 _ _ _ E3.out.h0).trans rfl
            have g0 := frozen_of_row _ _ 0 _ _ E3.out.h0
            have a1 : W3.cell? ⟨w.heap.size, 1, none⟩ = some (.int .u64 0) := (cell_of_row _ _ 1 _ _ _ E3.out.h0).trans rfl
            have g1 := frozen_of_row _ _ 1 _ _ E3.out.h0
            have a2 : W3.cell? ⟨w.heap.size, 2, none⟩ = some (.bool false) := (cell_of_row _ _ 2 _ _ _ E3.out.h0).trans rfl
            have g2 := frozen_of_row _ _ 2 _ _ E3.out.h0
            have a3 : W3.cell? ⟨w.heap.size, 3, none⟩ = some (.slice none 0 0) := (cell_of_row _ _ 3 _ _ _ E3.out.h0).trans rfl
            have g3 := frozen_of_row _ _ 3 _ _ E3.out.h0
            go_wp2_with fail
            rw [rounds_succ]; go_wp2_with fail
            refine wp_goto ?_
            refine And.intro rfl ?_
            go_wp2_with fail
            try rw [Exit.noGoto_ret]
            refine bodyPost_ret (v := .tuple #[.agg #[.slice none 0 0, .int .u64 0, .bool false, .slice none 0 0], .slice none 0 0, .bool false]) (by first | (simp [results, Try.results71, go_sem]; done) | (simp [results, Try.results71, go_sem]; go_simp)) rfl ?_
            unfold EntryP
            rw [HE.out]
            exact ⟨rfl, by first | exact (((E3.out.bel.setCell (Nat.le_refl _) _).setCell (Nat.le_refl _) _).setCell (Nat.le_refl _) _).setCell (Nat.le_refl _) _ | exact E3.out.bel⟩
          · obtain ⟨dv, hdv⟩ : ∃ dv : Bool, (d == 1) = dv := ⟨_, rfl⟩
            have hdd : decide (d = 1) = dv := by rw [← hdv]; rfl
            have HR : Hid (entryF b ahead = match numF b4 with
              | none => none
              | some (n3, b) => if (ahead.length : Int) < x0 ∨ (b.length : Int) < x1 ∨ (b.length : Int) - x1 < n3 then none else
                some ((ahead.take x0.toNat ++ b.take x1.toNat, x2, dv, (b.drop x1.toNat).take n3.toNat), (b.drop x1.toNat).drop n3.toNat)) := Lib.hid (by rw [← hdd]; unfold entryF; simp only [HN0'.out, HN1'.out, HN2'.out]; unfold restF; dsimp only; rw [if_neg hd])
            have z2 : W3.cell? ⟨w.heap.size + 1, 2, none⟩ = some (.bool false) := (cell_of_row _ _ 2 _ _ _ E3.out.h1).trans rfl
            have y2 := frozen_of_row _ _ 2 _ _ E3.out.h1
            have ED : Hid (EnI w (W3.setCell ⟨w.heap.size + 1, 2, none⟩ (.bool dv)) dv x0 x1 x2 0) := Lib.hid (E3.out.setDel dv)
            by_cases hc1 : cb3 = 1
            · have hb3 : b4 = [] := List.eq_nil_of_length_eq_zero (by simp only [List.length_cons] at alb3; omega)
              subst hb3
              have HE : Hid (entryF b ahead = none) := Lib.hid (by rw [HR.out]; rfl)
              subst hc1
              go_wp2_with fail
              rw [rounds_succ]; go_wp2_with fail
              refine (takeNumber_any _ [] (W3.setCell ⟨w.heap.size + 1, 2, none⟩ (.bool dv)) ((Hb3.out.cut0).below ED.out.bel)).mono ?_
              rintro e w' ⟨rfl, rfl⟩
              rw [show takeN [] = (0, 0, 10) from rfl]
              have a0 : (W3.setCell ⟨w.heap.size + 1, 2, none⟩ (.bool dv)).cell? ⟨w.heap.size, 0, none⟩ = some (.slice none 0 0) := (cell_of_row _ _ 0 _ _ _ ED.out.h0).trans rfl
              have g0 := frozen_of_row _ _ 0 _ _ ED.out.h0
              have a1 : (W3.setCell ⟨w.heap.size + 1, 2, none⟩ (.bool dv)).cell? ⟨w.heap.size, 1, none⟩ = some (.int .u64 0) := (cell_of_row _ _ 1 _ _ _ ED.out.h0).trans rfl
              have g1 := frozen_of_row _ _ 1 _ _ ED.out.h0
              have a2 : (W3.setCell ⟨w.heap.size + 1, 2, none⟩ (.bool dv)).cell? ⟨w.heap.size, 2, none⟩ = some (.bool false) := (cell_of_row _ _ 2 _ _ _ ED.out.h0).trans rfl
              have g2 := frozen_of_row _ _ 2 _ _ ED.out.h0
              have a3 : (W3.setCell ⟨w.heap.size + 1, 2, none⟩ (.bool dv)).cell? ⟨w.heap.size, 3, none⟩ = some (.slice none 0 0) := (cell_of_row _ _ 3 _ _ _ ED.out.h0).trans rfl
              have g3 := frozen_of_row _ _ 3 _ _ ED.out.h0
              go_wp2_with fail
              refine wp_goto ?_
              refine And.intro rfl ?_
              go_wp2_with fail
              try rw [Exit.noGoto_ret]
              refine bodyPost_ret (v := .tuple #[.agg #[.slice none 0 0, .int .u64 0, .bool false, .slice none 0 0], .slice none 0 0, .bool false]) (by first | (simp [results, Try.results71, go_sem]; done) | (simp [results, Try.results71, go_sem]; go_simp)) rfl ?_
              unfold EntryP
              rw [HE.out]
              exact ⟨rfl, by first | exact (((ED.out.bel.setCell (Nat.le_refl _) _).setCell (Nat.le_refl _) _).setCell (Nat.le_refl _) _).setCell (Nat.le_refl _) _ | exact ED.out.bel⟩
            · have hc2 : ¬ 1 = cb3 := fun h => hc1 h.symm
              obtain ⟨cb4, hcb4⟩ : ∃ y, cb3 - 1 = y := ⟨_, rfl⟩
              have Hb4 : Hid (IsB w (.slice (some ⟨gb, gf + 1, none⟩) b4.length cb4) b4) := Lib.hid (isB_suf (n := 1) (l := d :: b4) Hb3.out (by simp) (by simp) hcb4.symm (.inr rfl))
              have Pb4 : Hid (∀ W, IsB W (.slice bo b.length bc) b → IsB W (.slice (some ⟨gb, gf + 1, none⟩) b4.length cb4) b4) := Lib.hid (fun W hW => isB_suf (n := 1) (l := d :: b4) (Pb3.out W hW) (by simp) (by simp) hcb4.symm (.inr rfl))
              have alb4 : b4.length ≤ cb4 := by simp only [List.length_cons] at alb3; omega
              have jj : ((b4.length : Int) + 1 == 0) = false := beq_eq_false_iff_ne.2 (by omega)
              go_wp2_with fail
              rw [rounds_succ]; go_wp2_with fail
              generalize (some (⟨gb, gf + 1, none⟩ : Addr)) = ob4 at Hb4 Pb4 ⊢
              generalize (W3.setCell ⟨w.heap.size + 1, 2, none⟩ (.bool dv)) = WD at ED ⊢
              clear z2 y2 E3 cd3 hcb4 jj hc1 hc2
              refine (takeNumber_any _ b4 WD (Hb4.out.below ED.out.bel)).mono ?_
              rintro e w' ⟨rfl, rfl⟩
              obtain ⟨⟨n00, n01⟩, ⟨k00, k01⟩, -⟩ := takeN_bd Hb4.out.rng
              have HN3 : Hid (numF b4 = if (takeN b4).2.2 = 0 then some ((takeN b4).1, b4.drop (takeN b4).2.1.toNat) else none) := Lib.hid rfl
              obtain ⟨x3, k3, c3, hT⟩ : ∃ x k c, takeN b4 = (x, k, c) := ⟨_, _, _, rfl⟩
              rw [hT] at n00 n01 k00 k01 HN3 ⊢
              clear hT
              simp only at n00 n01 k00 k01 HN3 ⊢
              have HX3 : Hid (U64 x3) := Lib.hid (by unfold U64; omega)
              by_cases hc3 : c3 = 0
              · subst hc3
                obtain ⟨k3, rfl⟩ := Int.eq_ofNat_of_zero_le k00
                rw [if_pos rfl] at HN3
                have z0 := ED.out.c23
                have f0 := frozen_of_row _ _ 3 _ _ ED.out.h2
                have i0 : (k3 : Int) ≤ b4.length := k01
                have i1 : (k3 : Int) ≤ cb4 := by omega
                have i2 : (0 : Int) ≤ (k3 : Int) := by omega
                go_wp2_with fail
                go_region_law fail
                obtain ⟨b5, hbb5⟩ : ∃ y, b4.drop k3 = y := ⟨_, rfl⟩
                have hlb5 : b4.length - k3 = b5.length := by rw [← hbb5, List.length_drop]
                obtain ⟨ob5, hob5⟩ : ∃ y, (if cb4 = k3 then ob4 else Option.map (fun x => x.add k3) ob4) = y := ⟨_, rfl⟩
                obtain ⟨cb5, hcb5⟩ : ∃ y, cb4 - k3 = y := ⟨_, rfl⟩
                have Hb5 : Hid (IsB w (.slice ob5 b5.length cb5) b5) := Lib.hid (by
                  have h9 := isB_suf (ao' := ob5) (n := k3) (k := b5.length) (cap' := cb5) Hb4.out (by omega) hlb5.symm hcb5.symm (by
                    by_cases h8 : cb4 = k3
                    · rw [if_pos h8] at hob5
                      exact .inl ⟨h8, hob5.symm⟩
                    · rw [if_neg h8] at hob5
                      exact .inr hob5.symm)
                  rw [hbb5] at h9
                  exact h9)
                have Pb5 : Hid (∀ W, IsB W (.slice bo b.length bc) b → IsB W (.slice ob5 b5.length cb5) b5) := Lib.hid (fun W hW => by
                  have h9 := isB_suf (ao' := ob5) (n := k3) (k := b5.length) (cap' := cb5) (Pb4.out W hW) (by omega) hlb5.symm hcb5.symm (by
                    by_cases h8 : cb4 = k3
                    · rw [if_pos h8] at hob5
                      exact .inl ⟨h8, hob5.symm⟩
                    · rw [if_neg h8] at hob5
                      exact .inr hob5.symm)
                  rw [hbb5] at h9
                  exact h9)
                have alb5 : b5.length ≤ cb5 := by omega
                have hsb5 : b5.length ≤ b4.length := by omega
                rw [hob5, hcb5, hlb5]
                clear hob5 hcb5
                have E4 : Hid (EnI w (WD.setCell ⟨w.heap.size + 1 + 1, 3, none⟩ (.int .u64 x3)).drew dv x0 x1 x2 x3) := Lib.hid ((ED.out.set23 x3).below (Below.refl _ _).drew)
                generalize (WD.setCell ⟨w.heap.size + 1 + 1, 3, none⟩ (.int .u64 x3)).drew = W4 at E4 ⊢
                have HN3' : Hid (numF b4 = some (x3, b5)) := Lib.hid (by rw [HN3.out]; exact congrArg (fun y => some (x3, y)) hbb5)
                clear z0 f0 i0 i1 i2 n00 n01 k00 k01 HN3 hbb5 hlb5
                have HRF : Hid (entryF b ahead = if (ahead.length : Int) < x0 ∨ (b5.length : Int) < x1 ∨ (b5.length : Int) - x1 < x3 then none else
                    some ((ahead.take x0.toNat ++ b5.take x1.toNat, x2, dv, (b5.drop x1.toNat).take x3.toNat), (b5.drop x1.toNat).drop x3.toNat)) := Lib.hid (by rw [HR.out, HN3'.out]; first | done | rfl | simp)
                have hx0 : 0 ≤ x0 ∧ x0 ≤ 18446744073709551615 := by have := HX0.out; unfold U64 at this; omega
                have hx1 : 0 ≤ x1 ∧ x1 ≤ 18446744073709551615 := by have := HX1.out; unfold U64 at this; omega
                have hx3 : 0 ≤ x3 ∧ x3 ≤ 18446744073709551615 := by have := HX3.out; unfold U64 at this; omega
                have m1 := Ha.out.max
                have m2 := Hb5.out.max
                have u1 := IntWalk.u64_in (ahead.length : Int) (by omega)
                have u2 := IntWalk.u64_in (b5.length : Int) (by omega)
                have v0 := E4.out.c20
                have v1 := E4.out.c21
                have v2 := E4.out.c22
                have v3 := E4.out.c23
                by_cases hA : (ahead.length : Int) < x0
                · have HE : Hid (entryF b ahead = none) := Lib.hid (by rw [HRF.out, if_pos (.inl hA)])
                  have a0 : W4.cell? ⟨w.heap.size, 0, none⟩ = some (.slice none 0 0) := (cell_of_row _ _ 0 _ _ _ E4.out.h0).trans rfl
                  have g0 := frozen_of_row _ _ 0 _ _ E4.out.h0
                  have a1 : W4.cell? ⟨w.heap.size, 1, none⟩ = some (.int .u64 0) := (cell_of_row _ _ 1 _ _ _ E4.out.h0).trans rfl
                  have g1 := frozen_of_row _ _ 1 _ _ E4.out.h0
                  have a2 : W4.cell? ⟨w.heap.size, 2, none⟩ = some (.bool false) := (cell_of_row _ _ 2 _ _ _ E4.out.h0).trans rfl
                  have g2 := frozen_of_row _ _ 2 _ _ E4.out.h0
                  have a3 : W4.cell? ⟨w.heap.size, 3, none⟩ = some (.slice none 0 0) := (cell_of_row _ _ 3 _ _ _ E4.out.h0).trans rfl
                  have g3 := frozen_of_row _ _ 3 _ _ E4.out.h0
                  go_wp2_with fail
                  rw [rounds_succ]; go_wp2_with fail
                  refine wp_goto ?_
                  refine And.intro rfl ?_
                  go_wp2_with fail
                  try rw [Exit.noGoto_ret]
                  refine bodyPost_ret (v := .tuple #[.agg #[.slice none 0 0, .int .u64 0, .bool false, .slice none 0 0], .slice none 0 0, .bool false]) (by first | (simp [results, Try.results71, go_sem]; done) | (simp [results, Try.results71, go_sem]; go_simp)) rfl ?_
                  unfold EntryP
                  rw [HE.out]
                  exact ⟨rfl, by first | exact (((E4.out.bel.setCell (Nat.le_refl _) _).setCell (Nat.le_refl _) _).setCell (Nat.le_refl _) _).setCell (Nat.le_refl _) _ | exact E4.out.bel⟩
                by_cases hB : (b5.length : Int) < x1
                · have HE : Hid (entryF b ahead = none) := Lib.hid (by rw [HRF.out, if_pos (.inr (.inl hB))])
                  have a0 : W4.cell? ⟨w.heap.size, 0, none⟩ = some (.slice none 0 0) := (cell_of_row _ _ 0 _ _ _ E4.out.h0).trans rfl
                  have g0 := frozen_of_row _ _ 0 _ _ E4.out.h0
                  have a1 : W4.cell? ⟨w.heap.size, 1, none⟩ = some (.int .u64 0) := (cell_of_row _ _ 1 _ _ _ E4.out.h0).trans rfl
                  have g1 := frozen_of_row _ _ 1 _ _ E4.out.h0
                  have a2 : W4.cell? ⟨w.heap.size, 2, none⟩ = some (.bool false) := (cell_of_row _ _ 2 _ _ _ E4.out.h0).trans rfl
                  have g2 := frozen_of_row _ _ 2 _ _ E4.out.h0
                  have a3 : W4.cell? ⟨w.heap.size, 3, none⟩ = some (.slice none 0 0) := (cell_of_row _ _ 3 _ _ _ E4.out.h0).trans rfl
                  have g3 := frozen_of_row _ _ 3 _ _ E4.out.h0
                  go_wp2_with fail
                  rw [rounds_succ]; go_wp2_with fail
                  refine wp_goto ?_
                  refine And.intro rfl ?_
                  go_wp2_with fail
                  try rw [Exit.noGoto_ret]
                  refine bodyPost_ret (v := .tuple #[.agg #[.slice none 0 0, .int .u64 0, .bool false, .slice none 0 0], .slice none 0 0, .bool false]) (by first | (simp [results, Try.results71, go_sem]; done) | (simp [results, Try.results71, go_sem]; go_simp)) rfl ?_
                  unfold EntryP
                  rw [HE.out]
                  exact ⟨rfl, by first | exact (((E4.out.bel.setCell (Nat.le_refl _) _).setCell (Nat.le_refl _) _).setCell (Nat.le_refl _) _).setCell (Nat.le_refl _) _ | exact E4.out.bel⟩
                have u3 := IntWalk.u64_in ((b5.length : Int) - x1) (by omega)
                by_cases hC : (b5.length : Int) - x1 < x3
                · have HE : Hid (entryF b ahead = none) := Lib.hid (by rw [HRF.out, if_pos (.inr (.inr hC))])
                  have a0 : W4.cell? ⟨w.heap.size, 0, none⟩ = some (.slice none 0 0) := (cell_of_row _ _ 0 _ _ _ E4.out.h0).trans rfl
                  have g0 := frozen_of_row _ _ 0 _ _ E4.out.h0
                  have a1 : W4.cell? ⟨w.heap.size, 1, none⟩ = some (.int .u64 0) := (cell_of_row _ _ 1 _ _ _ E4.out.h0).trans rfl
                  have g1 := frozen_of_row _ _ 1 _ _ E4.out.h0
                  have a2 : W4.cell? ⟨w.heap.size, 2, none⟩ = some (.bool false) := (cell_of_row _ _ 2 _ _ _ E4.out.h0).trans rfl
                  have g2 := frozen_of_row _ _ 2 _ _ E4.out.h0
                  have a3 : W4.cell? ⟨w.heap.size, 3, none⟩ = some (.slice none 0 0) := (cell_of_row _ _ 3 _ _ _ E4.out.h0).trans rfl
                  have g3 := frozen_of_row _ _ 3 _ _ E4.out.h0
                  go_wp2_with fail
                  rw [rounds_succ]; go_wp2_with fail
                  refine wp_goto ?_
                  refine And.intro rfl ?_
                  go_wp2_with fail
                  try rw [Exit.noGoto_ret]
                  refine bodyPost_ret (v := .tuple #[.agg #[.slice none 0 0, .int .u64 0, .bool false, .slice none 0 0], .slice none 0 0, .bool false]) (by first | (simp [results, Try.results71, go_sem]; done) | (simp [results, Try.results71, go_sem]; go_simp)) rfl ?_
                  unfold EntryP
                  rw [HE.out]
                  exact ⟨rfl, by first | exact (((E4.out.bel.setCell (Nat.le_refl _) _).setCell (Nat.le_refl _) _).setCell (Nat.le_refl _) _).setCell (Nat.le_refl _) _ | exact E4.out.bel⟩
                obtain ⟨m0, rfl⟩ := Int.eq_ofNat_of_zero_le hx0.1
                obtain ⟨n1, rfl⟩ := Int.eq_ofNat_of_zero_le hx1.1
                obtain ⟨n3, rfl⟩ := Int.eq_ofNat_of_zero_le hx3.1
                have HRS : Hid (entryF b ahead = some ((ahead.take m0 ++ b5.take n1, x2, dv, (b5.drop n1).take n3), (b5.drop n1).drop n3)) := Lib.hid (by rw [HRF.out, if_neg (by rw [not_or, not_or]; exact ⟨hA, hB, hC⟩)]; rfl)
                have y1 := frozen_of_row _ _ 1 _ _ E4.out.h1
                have t1 : W4.cell? ⟨w.heap.size + 1, 1, none⟩ = some (.int .u64 0) := (cell_of_row _ _ 1 _ _ _ E4.out.h1).trans rfl
                clear HRF HR
                have HLB : Hid (ahead.length + b5.length ≤ 70368744177664) := Lib.hid (by simp only [List.length_cons] at hsb3; omega)
                have EK : Hid (EnK w (W4.setCell ⟨w.heap.size + 1, 1, none⟩ (.int .u64 x2)) dv m0 n1 x2 n3 (.slice none 0 0) x2 (.slice none 0 0)) := Lib.hid (E4.out.setSeq x2)
                go_wp2_with fail
                rw [rounds_succ]; go_wp2_with fail
                generalize W4.setCell ⟨w.heap.size + 1, 1, none⟩ (.int .u64 x2) = W5 at EK ⊢
                clear t1 y1 v0 v1 v2 v3 E4
                have v0 := EK.out.c20
                have v1 := EK.out.c21
                have v3 := EK.out.c23
                have l0 : (m0 : Int) ≤ ahead.length := by omega
                have l1 : (n1 : Int) ≤ b5.length := by omega
                have l2 : (m0 : Int) ≤ ac := by omega
                have l3 : (n1 : Int) ≤ cb5 := by omega
                have l4 : (0 : Int) ≤ (m0 : Int) := by omega
                have l5 : (0 : Int) ≤ (n1 : Int) := by omega
                have l6 : (n3 : Int) ≤ (b5.length : Int) - n1 := by omega
                have HBB : Hid (IsBB (W5.drew.alloc (.cells #[.slice ao m0 ac, .slice ob5 n1 cb5] 25)) (.slice (some ⟨W5.heap.size, 0, none⟩) 2 2) [ahead.take m0, b5.take n1]) := Lib.hid
                  (isBB_own (base := W5.drew.heap.size) (vs := (#[.slice ao m0 ac, .slice ob5 n1 cb5] : Array Value).toList) (World.ownsRow_lit W5.drew #[.slice ao m0 ac, .slice ob5 n1 cb5] 2 (Nat.le_refl _) (by simp [maxLen]) (by simp)) ⟨((Codec.IsB.front Ha.out m0 (by omega)).below EK.out.bel.drew).alloc _, ((Codec.IsB.front Hb5.out n1 (by omega)).below EK.out.bel.drew).alloc _, trivial⟩)
                have HCT := Lib.hid (concat_any _ _ _ HBB.out (by unfold catLen; have := HLB.out; simp; omega))
                unfold CatPost at HCT
                have HKF : Hid ([ahead.take m0, b5.take n1].flatten = ahead.take m0 ++ b5.take n1) := Lib.hid (by simp)
                rw [HKF.out] at HCT
                have HKR : Hid (Rng (ahead.take m0 ++ b5.take n1)) := Lib.hid ((Ha.out.rng.take _).append (Hb5.out.rng.take _))
                obtain ⟨key, hkey⟩ : ∃ y, ahead.take m0 ++ b5.take n1 = y := ⟨_, rfl⟩
                rw [hkey] at HCT HKR
                have HKE := Lib.hid hkey
                clear hkey HBB HKF
                refine wp_region_still_tail 8 (by kernel_rfl) (by kernel_rfl) ?_
                show wpStill _ _ (World.drew _) _ _ _
                simp only [List.take_succ_cons, List.take_zero, List.drop_succ_cons, List.drop_zero]
                still_step; still_step; still_step; still_step; still_step; still_step; still_step; still_step
                refine wpStill_nil ?_
                show wpList _ _ _ _ _ (World.drew _)
                go_wp2_with fail
                refine HCT.out.mono ?_
                rintro e w6 ⟨v6, rfl, o6, d6⟩; obtain ⟨kvo, kvc, rfl, -, -, -, -⟩ := own_form o6; have EK6 : Hid (EnK w w6 dv m0 n1 x2 n3 (.slice none 0 0) x2 (.slice none 0 0)) := Lib.hid (EK.out.below (((Below.refl W5.heap.size W5).drew.alloc (Nat.le_refl _) _).trans (d6.mono (by first | (simp; done) | (simp; omega))))); have z0 : w6.cell? ⟨w.heap.size + 1, 0, none⟩ = some (.slice none 0 0) := (cell_of_row _ _ 0 _ _ _ EK6.out.h1).trans rfl; have y0 := frozen_of_row _ _ 0 _ _ EK6.out.h1; have O6 : Hid (OwnS w6 W5.heap.size 5 (.slice kvo key.length kvc) key) := Lib.hid ((OwnS.of_own o6 HKR.out).mono (by first | (simp; done) | (simp; omega))); have S56 : Hid (W5.heap.size ≤ w6.heap.size) := Lib.hid (by have := d6.size; simp at this; omega); clear o6 d6
                go_upto_region 17 with fail
                all_goals (
                  have S5 : w.heap.size + 1 + 1 < W5.heap.size := (Array.getElem?_eq_some_iff.1 EK.out.h2).1
                  have EK7 : Hid (EnK w (w6.setCell ⟨w.heap.size + 1, 0, none⟩ (.slice kvo key.length kvc)) dv m0 n1 x2 n3 (.slice kvo key.length kvc) x2 (.slice none 0 0)) := Lib.hid (EK6.out.setK _)
                  have O7 : Hid (OwnS (w6.setCell ⟨w.heap.size + 1, 0, none⟩ (.slice kvo key.length kvc)) W5.heap.size 5 (.slice kvo key.length kvc) key) := Lib.hid (ownS_set O6.out (p := ⟨w.heap.size + 1, 0, none⟩) (fun b e => by have := (O6.out.lt b e).1; simp only; omega) _)
                  have S57 : Hid (W5.heap.size ≤ (w6.setCell ⟨w.heap.size + 1, 0, none⟩ (.slice kvo key.length kvc)).heap.size) := Lib.hid (by rw [World.size_setCell]; exact S56.out)
                  generalize w6.setCell ⟨w.heap.size + 1, 0, none⟩ (.slice kvo key.length kvc) = W7 at EK7 O7 S57 ⊢
                  clear z0 y0 EK6 O6 v0 v1 v3
                  have v1 := EK7.out.c21
                  go_upto_region 18 with fail
                  obtain ⟨b6, hbb6⟩ : ∃ y, b5.drop n1 = y := ⟨_, rfl⟩
                  have hlb6 : b5.length - n1 = b6.length := by rw [← hbb6, List.length_drop]
                  obtain ⟨ob6, hob6⟩ : ∃ y, (if cb5 = n1 then ob5 else Option.map (fun x => x.add n1) ob5) = y := ⟨_, rfl⟩
                  obtain ⟨cb6, hcb6⟩ : ∃ y, cb5 - n1 = y := ⟨_, rfl⟩
                  have Hb6 : Hid (IsB w (.slice ob6 b6.length cb6) b6) := Lib.hid (by
                    have h9 := isB_suf (ao' := ob6) (n := n1) (k := b6.length) (cap' := cb6) Hb5.out (by omega) hlb6.symm hcb6.symm (by
                      by_cases h8 : cb5 = n1
                      · rw [if_pos h8] at hob6
                        exact .inl ⟨h8, hob6.symm⟩
                      · rw [if_neg h8] at hob6
                        exact .inr hob6.symm)
                    rw [hbb6] at h9
                    exact h9)
                  have Pb6 : Hid (∀ W, IsB W (.slice bo b.length bc) b → IsB W (.slice ob6 b6.length cb6) b6) := Lib.hid (fun W hW => by
                    have h9 := isB_suf (ao' := ob6) (n := n1) (k := b6.length) (cap' := cb6) (Pb5.out W hW) (by omega) hlb6.symm hcb6.symm (by
                      by_cases h8 : cb5 = n1
                      · rw [if_pos h8] at hob6
                        exact .inl ⟨h8, hob6.symm⟩
                      · rw [if_neg h8] at hob6
                        exact .inr hob6.symm)
                    rw [hbb6] at h9
                    exact h9)
                  have alb6 : b6.length ≤ cb6 := by omega
                  have hsb6 : b6.length ≤ b5.length := by omega
                  rw [hob6, hcb6, hlb6]
                  clear hob6 hcb6
                  obtain ⟨val, hval⟩ : ∃ y, b6.take n3 = y := ⟨_, rfl⟩
                  have hvl : val.length = n3 := by rw [← hval, List.length_take]; omega
                  have HCN : Hid (Calls Try.prog 39 #[.slice ob6 n3 cb6] W7 (CloneP val W7)) := Lib.hid (by
                    have h9 := cloneB_any ob6 cb6 val W7 (by rw [hvl, ← hval]; exact (Codec.IsB.front Hb6.out n3 (by omega)).below EK7.out.bel) (by have := HLB.out; omega)
                    rw [hvl] at h9
                    exact h9)
                  unfold CloneP at HCN
                  rw [hvl] at HCN
                  have HVL := Lib.hid hvl
                  have v3 := EK7.out.c23
                  have l7 : (n3 : Int) ≤ b6.length := by omega
                  have l8 : (n3 : Int) ≤ cb6 := by omega
                  have l9 : (0 : Int) ≤ (n3 : Int) := by omega
                  go_wp2_with fail
                  refine HCN.out.mono ?_
                  rintro e w8 ⟨vao, vcap, rfl, f1, f2, o8, d8⟩
                  have EK8 := Lib.hid (EK7.out.below d8)
                  have O8 := Lib.hid (O7.out.below d8)
                  have OV8 := Lib.hid (o8.mono S57.out)
                  have z3 : w8.cell? ⟨w.heap.size + 1, 3, none⟩ = some (.slice none 0 0) := (cell_of_row _ _ 3 _ _ _ EK8.out.h1).trans rfl
                  have y3 := frozen_of_row _ _ 3 _ _ EK8.out.h1
                  clear v3 o8 d8 EK7 O7
                  go_wp2_with (go_at_call 38; refine (clip_any _ _ _ _ f1 f2).mono ?_; rintro e w9 ⟨rfl, rfl⟩)
                  have EK9 : Hid (EnK w (w8.setCell ⟨w.heap.size + 1, 3, none⟩ (.slice vao n3 n3)) dv m0 n1 x2 n3 (.slice kvo key.length kvc) x2 (.slice vao n3 n3)) := Lib.hid (EK8.out.setV _)
                  have O9 : Hid (OwnS (w8.setCell ⟨w.heap.size + 1, 3, none⟩ (.slice vao n3 n3)) W5.heap.size 5 (.slice kvo key.length kvc) key) := Lib.hid (ownS_set O8.out (p := ⟨w.heap.size + 1, 3, none⟩) (fun b e => by have := (O8.out.lt b e).1; simp only; omega) _)
                  have OV9 : Hid (OwnS (w8.setCell ⟨w.heap.size + 1, 3, none⟩ (.slice vao n3 n3)) W5.heap.size 5 (.slice vao n3 n3) val) := Lib.hid (ownS_set OV8.out.clip (p := ⟨w.heap.size + 1, 3, none⟩) (fun b e => by have := (OV8.out.clip.lt b e).1; simp only; omega) _)
                  generalize w8.setCell ⟨w.heap.size + 1, 3, none⟩ (.slice vao n3 n3) = W9 at EK9 O9 OV9 ⊢
                  clear z3 y3 EK8 O8 OV8 f1 f2
                  have v3 := EK9.out.c23
                  have k0 : W9.cell? ⟨w.heap.size + 1, 0, none⟩ = some (.slice kvo key.length kvc) := (cell_of_row _ _ 0 _ _ _ EK9.out.h1).trans rfl
                  have k1 : W9.cell? ⟨w.heap.size + 1, 1, none⟩ = some (.int .u64 x2) := (cell_of_row _ _ 1 _ _ _ EK9.out.h1).trans rfl
                  have k2 : W9.cell? ⟨w.heap.size + 1, 2, none⟩ = some (.bool dv) := (cell_of_row _ _ 2 _ _ _ EK9.out.h1).trans rfl
                  have k3 : W9.cell? ⟨w.heap.size + 1, 3, none⟩ = some (.slice vao n3 n3) := (cell_of_row _ _ 3 _ _ _ EK9.out.h1).trans rfl
                  have a0 : W9.cell? ⟨w.heap.size, 0, none⟩ = some (.slice none 0 0) := (cell_of_row _ _ 0 _ _ _ EK9.out.h0).trans rfl
                  have a1 : W9.cell? ⟨w.heap.size, 1, none⟩ = some (.int .u64 0) := (cell_of_row _ _ 1 _ _ _ EK9.out.h0).trans rfl
                  have a2 : W9.cell? ⟨w.heap.size, 2, none⟩ = some (.bool false) := (cell_of_row _ _ 2 _ _ _ EK9.out.h0).trans rfl
                  have a3 : W9.cell? ⟨w.heap.size, 3, none⟩ = some (.slice none 0 0) := (cell_of_row _ _ 3 _ _ _ EK9.out.h0).trans rfl
                  have g0 := frozen_of_row _ _ 0 _ _ EK9.out.h0
                  have g1 := frozen_of_row _ _ 1 _ _ EK9.out.h0
                  have g2 := frozen_of_row _ _ 2 _ _ EK9.out.h0
                  have g3 := frozen_of_row _ _ 3 _ _ EK9.out.h0
                  have FB : Hid (Below w.heap.size w ((((W9.setCell ⟨w.heap.size, 0, none⟩ (.slice kvo key.length kvc)).setCell ⟨w.heap.size, 1, none⟩ (.int .u64 x2)).setCell ⟨w.heap.size, 2, none⟩ (.bool dv)).setCell ⟨w.heap.size, 3, none⟩ (.slice vao n3 n3))) := Lib.hid ((((EK9.out.bel.setCell (Nat.le_refl _) _).setCell (Nat.le_refl _) _).setCell (Nat.le_refl _) _).setCell (Nat.le_refl _) _)
                  have FO : Hid (∀ (v : Value) (l : List Int), OwnS W9 W5.heap.size 5 v l → OwnS ((((W9.setCell ⟨w.heap.size, 0, none⟩ (.slice kvo key.length kvc)).setCell ⟨w.heap.size, 1, none⟩ (.int .u64 x2)).setCell ⟨w.heap.size, 2, none⟩ (.bool dv)).setCell ⟨w.heap.size, 3, none⟩ (.slice vao n3 n3)) w.heap.size 5 v l) := Lib.hid (fun v l h => by
                    have hne : ∀ b, v.ownBlock = some b → b ≠ w.heap.size := fun b e => by have := (h.lt b e).1; omega
                    exact (ownS_set (ownS_set (ownS_set (ownS_set h (p := ⟨w.heap.size, 0, none⟩) hne _) (p := ⟨w.heap.size, 1, none⟩) hne _) (p := ⟨w.heap.size, 2, none⟩) hne _) (p := ⟨w.heap.size, 3, none⟩) hne _).mono (by omega))
                  go_region_law fail
                  all_goals (
                    obtain ⟨b7, hbb7⟩ : ∃ y, b6.drop n3 = y := ⟨_, rfl⟩
                    have hlb7 : b6.length - n3 = b7.length := by rw [← hbb7, List.length_drop]
                    obtain ⟨ob7, hob7⟩ : ∃ y, (if cb6 = n3 then ob6 else Option.map (fun x => x.add n3) ob6) = y := ⟨_, rfl⟩
                    obtain ⟨cb7, hcb7⟩ : ∃ y, cb6 - n3 = y := ⟨_, rfl⟩
                    have Hb7 : Hid (IsB w (.slice ob7 b7.length cb7) b7) := Lib.hid (by
                      have h9 := isB_suf (ao' := ob7) (n := n3) (k := b7.length) (cap' := cb7) Hb6.out (by omega) hlb7.symm hcb7.symm (by
                        by_cases h8 : cb6 = n3
                        · rw [if_pos h8] at hob7
                          exact .inl ⟨h8, hob7.symm⟩
                        · rw [if_neg h8] at hob7
                          exact .inr hob7.symm)
                      rw [hbb7] at h9
                      exact h9)
                    have Pb7 : Hid (∀ W, IsB W (.slice bo b.length bc) b → IsB W (.slice ob7 b7.length cb7) b7) := Lib.hid (fun W hW => by
                      have h9 := isB_suf (ao' := ob7) (n := n3) (k := b7.length) (cap' := cb7) (Pb6.out W hW) (by omega) hlb7.symm hcb7.symm (by
                        by_cases h8 : cb6 = n3
                        · rw [if_pos h8] at hob7
                          exact .inl ⟨h8, hob7.symm⟩
                        · rw [if_neg h8] at hob7
                          exact .inr hob7.symm)
                      rw [hbb7] at h9
                      exact h9)
                    have alb7 : b7.length ≤ cb7 := by omega
                    have hsb7 : b7.length ≤ b6.length := by omega
                    rw [hob7, hcb7, hlb7]
                    clear hob7 hcb7
                    have HRV : Hid (entryF b ahead = some ((key, x2, dv, val), b7)) := Lib.hid (by rw [HRS.out, HKE.out, hbb6, hval, hbb7])
                    go_wp2_with fail
                    try rw [Exit.noGoto_ret]
                    refine bodyPost_ret (v := .tuple #[.agg #[.slice kvo key.length kvc, .int .u64 x2, .bool dv, .slice vao n3 n3], .slice ob7 b7.length cb7, .bool true]) (by first | (simp [results, Try.results71, go_sem]; done) | (simp [results, Try.results71, go_sem]; go_simp)) rfl ?_
                    unfold EntryP
                    rw [HRV.out]
                    exact ⟨_, _, _, rfl, FO.out _ _ O9.out, FO.out _ _ OV9.out, Hb7.out.below FB.out.drew, Pb7.out, HX2.out, FB.out.drew⟩))
              · have q0 : (c3 == 0) = false := beq_eq_false_iff_ne.2 hc3
                rw [if_neg hc3] at HN3
                have HE : Hid (entryF b ahead = none) := Lib.hid (by rw [HR.out, HN3.out])
                clear n00 n01 k00 k01
                have a0 : WD.cell? ⟨w.heap.size, 0, none⟩ = some (.slice none 0 0) := (cell_of_row _ _ 0 _ _ _ ED.out.h0).trans rfl
                have g0 := frozen_of_row _ _ 0 _ _ ED.out.h0
                have a1 : WD.cell? ⟨w.heap.size, 1, none⟩ = some (.int .u64 0) := (cell_of_row _ _ 1 _ _ _ ED.out.h0).trans rfl
                have g1 := frozen_of_row _ _ 1 _ _ ED.out.h0
                have a2 : WD.cell? ⟨w.heap.size, 2, none⟩ = some (.bool false) := (cell_of_row _ _ 2 _ _ _ ED.out.h0).trans rfl
                have g2 := frozen_of_row _ _ 2 _ _ ED.out.h0
                have a3 : WD.cell? ⟨w.heap.size, 3, none⟩ = some (.slice none 0 0) := (cell_of_row _ _ 3 _ _ _ ED.out.h0).trans rfl
                have g3 := frozen_of_row _ _ 3 _ _ ED.out.h0
                go_wp2_with fail
                refine wp_goto ?_
                refine And.intro rfl ?_
                go_wp2_with fail
                try rw [Exit.noGoto_ret]
                refine bodyPost_ret (v := .tuple #[.agg #[.slice none 0 0, .int .u64 0, .bool false, .slice none 0 0], .slice none 0 0, .bool false]) (by first | (simp [results, Try.results71, go_sem]; done) | (simp [results, Try.results71, go_sem]; go_simp)) rfl ?_
                unfold EntryP
                rw [HE.out]
                exact ⟨rfl, by first | exact (((ED.out.bel.setCell (Nat.le_refl _) _).setCell (Nat.le_refl _) _).setCell (Nat.le_refl _) _).setCell (Nat.le_refl _) _ | exact ED.out.bel⟩
      · have q0 : (c2 == 0) = false := beq_eq_false_iff_ne.2 hc2
        rw [if_neg hc2] at HN2
        have HE : Hid (entryF b ahead = none) := Lib.hid (by unfold entryF; simp only [HN0'.out, HN1'.out, HN2.out])
        clear n00 n01 k00 k01
        have a0 : W2.cell? ⟨w.heap.size, 0, none⟩ = some (.slice none 0 0) := (cell_of_row _ _ 0 _ _ _ E2.out.h0).trans rfl
        have g0 := frozen_of_row _ _ 0 _ _ E2.out.h0
        have a1 : W2.cell? ⟨w.heap.size, 1, none⟩ = some (.int .u64 0) := (cell_of_row _ _ 1 _ _ _ E2.out.h0).trans rfl
        have g1 := frozen_of_row _ _ 1 _ _ E2.out.h0
        have a2 : W2.cell? ⟨w.heap.size, 2, none⟩ = some (.bool false) := (cell_of_row _ _ 2 _ _ _ E2.out.h0).trans rfl
        have g2 := frozen_of_row _ _ 2 _ _ E2.out.h0
        have a3 : W2.cell? ⟨w.heap.size, 3, none⟩ = some (.slice none 0 0) := (cell_of_row _ _ 3 _ _ _ E2.out.h0).trans rfl
        have g3 := frozen_of_row _ _ 3 _ _ E2.out.h0
        go_wp2_with fail
        refine wp_goto ?_
        refine And.intro rfl ?_
        go_wp2_with fail
        try rw [Exit.noGoto_ret]
        refine bodyPost_ret (v := .tuple #[.agg #[.slice none 0 0, .int .u64 0, .bool false, .slice none 0 0], .slice none 0 0, .bool false]) (by first | (simp [results, Try.results71, go_sem]; done) | (simp [results, Try.results71, go_sem]; go_simp)) rfl ?_
        unfold EntryP
        rw [HE.out]
        exact ⟨rfl, by first | exact (((E2.out.bel.setCell (Nat.le_refl _) _).setCell (Nat.le_refl _) _).setCell (Nat.le_refl _) _).setCell (Nat.le_refl _) _ | exact E2.out.bel⟩
    · have q0 : (c1 == 0) = false := beq_eq_false_iff_ne.2 hc1
      rw [if_neg hc1] at HN1
      have HE : Hid (entryF b ahead = none) := Lib.hid (by unfold entryF; simp only [HN0'.out, HN1.out])
      clear n00 n01 k00 k01
      have a0 : W1.cell? ⟨w.heap.size, 0, none⟩ = some (.slice none 0 0) := (cell_of_row _ _ 0 _ _ _ E1.out.h0).trans rfl
      have g0 := frozen_of_row _ _ 0 _ _ E1.out.h0
      have a1 : W1.cell? ⟨w.heap.size, 1, none⟩ = some (.int .u64 0) := (cell_of_row _ _ 1 _ _ _ E1.out.h0).trans rfl
      have g1 := frozen_of_row _ _ 1 _ _ E1.out.h0
      have a2 : W1.cell? ⟨w.heap.size, 2, none⟩ = some (.bool false) := (cell_of_row _ _ 2 _ _ _ E1.out.h0).trans rfl
      have g2 := frozen_of_row _ _ 2 _ _ E1.out.h0
      have a3 : W1.cell? ⟨w.heap.size, 3, none⟩ = some (.slice none 0 0) := (cell_of_row _ _ 3 _ _ _ E1.out.h0).trans rfl
      have g3 := frozen_of_row _ _ 3 _ _ E1.out.h0
      go_wp2_with fail
      refine wp_goto ?_
      refine And.intro rfl ?_
      go_wp2_with fail
      try rw [Exit.noGoto_ret]
      refine bodyPost_ret (v := .tuple #[.agg #[.slice none 0 0, .int .u64 0, .bool false, .slice none 0 0], .slice none 0 0, .bool false]) (by first | (simp [results, Try.results71, go_sem]; done) | (simp [results, Try.results71, go_sem]; go_simp)) rfl ?_
      unfold EntryP
      rw [HE.out]
      exact ⟨rfl, by first | exact (((E1.out.bel.setCell (Nat.le_refl _) _).setCell (Nat.le_refl _) _).setCell (Nat.le_refl _) _).setCell (Nat.le_refl _) _ | exact E1.out.bel⟩
  · have q0 : (c0 == 0) = false := beq_eq_false_iff_ne.2 hc0
    rw [if_neg hc0] at HN0
    have HE : Hid (entryF b ahead = none) := Lib.hid (by unfold entryF; simp only [ HN0.out])
    clear n00 n01 k00 k01
    have a0 : W0.cell? ⟨w.heap.size, 0, none⟩ = some (.slice none 0 0) := (cell_of_row _ _ 0 _ _ _ E0.out.h0).trans rfl
    have g0 := frozen_of_row _ _ 0 _ _ E0.out.h0
    have a1 : W0.cell? ⟨w.heap.size, 1, none⟩ = some (.int .u64 0) := (cell_of_row _ _ 1 _ _ _ E0.out.h0).trans rfl
    have g1 := frozen_of_row _ _ 1 _ _ E0.out.h0
    have a2 : W0.cell? ⟨w.heap.size, 2, none⟩ = some (.bool false) := (cell_of_row _ _ 2 _ _ _ E0.out.h0).trans rfl
    have g2 := frozen_of_row _ _ 2 _ _ E0.out.h0
    have a3 : W0.cell? ⟨w.heap.size, 3, none⟩ = some (.slice none 0 0) := (cell_of_row _ _ 3 _ _ _ E0.out.h0).trans rfl
    have g3 := frozen_of_row _ _ 3 _ _ E0.out.h0
    go_wp2_with fail
    refine wp_goto ?_
    refine And.intro rfl ?_
    go_wp2_with fail
    try rw [Exit.noGoto_ret]
    refine bodyPost_ret (v := .tuple #[.agg #[.slice none 0 0, .int .u64 0, .bool false, .slice none 0 0], .slice none 0 0, .bool false]) (by first | (simp [results, Try.results71, go_sem]; done) | (simp [results, Try.results71, go_sem]; go_simp)) rfl ?_
    unfold EntryP
    rw [HE.out]
    exact ⟨rfl, by first | exact (((E0.out.bel.setCell (Nat.le_refl _) _).setCell (Nat.le_refl _) _).setCell (Nat.le_refl _) _).setCell (Nat.le_refl _) _ | exact E0.out.bel⟩
end Ss
end Go.Proofs.Ytmojbamloanleaa
