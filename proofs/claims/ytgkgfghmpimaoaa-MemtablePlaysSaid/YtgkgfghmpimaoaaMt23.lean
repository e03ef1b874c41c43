/- memtable: a table and the reference's beside it. -/
import Derived.Test.YtgkgfghmpimaoaaMt22
set_option linter.unusedVariables false
set_option linter.unusedSimpArgs false
namespace Go.Proofs.Ytgkgfghmpimaoaa
open Go.RowKit
namespace Mt
/-- something that is done: its kind, an entry, a number -/
abbrev De : Type := Int × En × Int
def deR (w : World) (cs : List Value) (d : De) : Prop := ∃ kv vv, cs = [.int .i64 d.1, kv, .int .u64 d.2.1.2.1, .bool d.2.1.2.2.1, vv, .int .i64 d.2.2] ∧ IsB w kv d.2.1.1 ∧ IsB w vv d.2.1.2.2.2 ∧ U64 d.2.1.2.1 ∧ Short d.2.1 ∧ I64 d.2.2
theorem deR_stays : Stays deR := fun w w' cs x hb ⟨kv, vv, h1, h2, h3, h4⟩ => ⟨kv, vv, h1, h2.below hb, h3.below hb, h4⟩
abbrev IsDs (w : World) (v : Value) (l : List De) : Prop := IsL 6 deR w v l
theorem IsDs.at6 {w : World} {ao : Option Addr} {n cap k : Nat} {l : List De} (h : IsDs w (.slice ao n cap) l) (hk : k < l.length) :
    ∃ b o, ∃ d : De, ∃ kv vv, ao = some ⟨b, o, none⟩ ∧ b < w.heap.size ∧ w.cell? ⟨b, o + k * 6, none⟩ = some (.int .i64 d.1) ∧ w.cell? ⟨b, o + k * 6 + 1, none⟩ = some kv ∧ w.cell? ⟨b, o + k * 6 + 2, none⟩ = some (.int .u64 d.2.1.2.1) ∧ w.cell? ⟨b, o + k * 6 + 3, none⟩ = some (.bool d.2.1.2.2.1) ∧ w.cell? ⟨b, o + k * 6 + 4, none⟩ = some vv ∧ w.cell? ⟨b, o + k * 6 + 5, none⟩ = some (.int .i64 d.2.2) ∧ Hid (IsB w kv d.2.1.1) ∧ Hid (IsB w vv d.2.1.2.2.2) ∧ Hid (U64 d.2.1.2.1 ∧ Short d.2.1 ∧ I64 d.2.2) := by
  obtain ⟨b, o, x, cs, h1, h2, h3, h4, h5, kv, vv, rfl, h6, h7, h8⟩ := h.at_ hk
  exact ⟨b, o, x, kv, vv, h1, h2, h5.out 0 _ rfl, h5.out 1 _ rfl, h5.out 2 _ rfl, h5.out 3 _ rfl, h5.out 4 _ rfl, h5.out 5 _ rfl, h6, h7, h8⟩
structure PlS (T : Nat → Prop) (w W : World) (ta rb : Nat) (hs : List Int) (Pa Pb : Pl) (Sa Sb : Nat → Prop) : Prop where
  a : TabP Sa W ta hs Pa
  b : RefP Sb W rb hs Pb
  ap : ∀ k, Sa k → ¬ Sb k
  la : ∀ k, Sa k → w.heap.size ≤ k
  lb : ∀ k, Sb k → w.heap.size ≤ k
  na : ∀ k, Sa k → ¬ T k
  nb : ∀ k, Sb k → ¬ T k
  bel : Below w.heap.size w W
/-- a table and the reference's, both the call's own; T: blocks that neither leans on -/
def PlX (T : Nat → Prop) (w W : World) (ta rb : Nat) (hs : List Int) (Pa Pb : Pl) : Prop := ∃ Sa Sb, PlS T w W ta rb hs Pa Pb Sa Sb
section
variable {T T' : Nat → Prop} {w W W' : World} {ta rb : Nat} {hs : List Int} {Pa Pb : Pl}
theorem PlX.below (h : PlX T w W ta rb hs Pa Pb) (k : Below W.heap.size W W') : PlX T w W' ta rb hs Pa Pb := by
  obtain ⟨Sa, Sb, h⟩ := h
  exact ⟨Sa, Sb, h.a.below k, h.b.below k, h.ap, h.la, h.lb, h.na, h.nb, bel_call h.bel k⟩
theorem PlX.bel (h : PlX T w W ta rb hs Pa Pb) : Below w.heap.size w W := by
  obtain ⟨Sa, Sb, h⟩ := h
  exact h.bel
theorem PlX.weak (h : PlX T w W ta rb hs Pa Pb) (k : ∀ b, T' b → T b) : PlX T' w W ta rb hs Pa Pb := by
  obtain ⟨Sa, Sb, h⟩ := h
  exact ⟨Sa, Sb, h.a, h.b, h.ap, h.la, h.lb, fun b hb ht => h.na b hb (k b ht), fun b hb ht => h.nb b hb (k b ht), h.bel⟩
/-- what is new, neither leans on -/
theorem PlX.fresh (h : PlX T w W ta rb hs Pa Pb) (k : Below W.heap.size W W') : PlX (fun b => W.heap.size ≤ b) w W' ta rb hs Pa Pb := by
  obtain ⟨Sa, Sb, h⟩ := h
  exact ⟨Sa, Sb, h.a.below k, h.b.below k, h.ap, h.la, h.lb, fun b hb ht => by have := h.a.lt b hb; omega, fun b hb ht => by have := h.b.lt b hb; omega, bel_call h.bel k⟩
theorem PlX.turn (h : PlX T w W ta rb hs Pa Pb) (c : Chg T W W') (hT : ∀ b, T b → w.heap.size ≤ b) : PlX T w W' ta rb hs Pa Pb := by
  obtain ⟨Sa, Sb, h⟩ := h
  exact ⟨Sa, Sb, h.a.keep (c.mono fun b _ hb hs => h.na b hs hb), h.b.keep (c.mono fun b _ hb hs => h.nb b hs hb), h.ap, h.la, h.lb, h.na, h.nb, h.bel.trans (c.below h.bel.size (fun b hb ht => by have := hT b ht; omega))⟩
theorem PlX.sa (h : PlX T w W ta rb hs Pa Pb) : ShI w W ta hs Pa := by
  obtain ⟨Sa, Sb, h⟩ := h
  exact ⟨Sa, h.a, h.la, h.bel⟩
theorem PlX.rr (h : PlX T w W ta rb hs Pa Pb) : ∃ hv lv, RefR W rb hs Pb hv lv := by
  obtain ⟨Sa, Sb, h⟩ := h
  exact h.b.r
theorem PlX.putA (h : PlX T w W ta rb hs Pa Pb) (hT : ∀ b, T b → b < W.heap.size) (kv vv : Value) (x : En) (hk : IsB W kv x.1) (hv : IsB W vv x.2.2.2) (hu : U64 x.2.1) (hn : Pa.length < 1000) :
    Calls Try.prog 21 #[.pointer (some ⟨ta, 0, none⟩), .agg #[kv, .int .u64 x.2.1, .bool x.2.2.1, vv]] W (fun e w' => e = .returned (.int .i64 (putCF Pa x)) ∧ PlX T w w' ta rb hs (putF hs Pa x) Pb ∧ Chg (fun b => ¬ T b) W w') := by
  obtain ⟨Sa, Sb, h⟩ := h
  refine (tPut Sa ta hs Pa kv vv x W h.a hk hv hu hn).mono ?_
  rintro e w' ⟨rfl, q1, q2⟩
  refine ⟨rfl, ⟨_, Sb, q2, h.b.keep (q1.mono fun k _ hk hS => h.ap k hk hS), fun k hk hS => ?_, fun k hk => ?_, h.lb, fun k hk ht => ?_, h.nb, h.bel.trans (q1.below h.bel.size (fun k hk hS => by have := h.la k hS; omega))⟩, q1.mono fun k _ hk ht => h.na k hk ht⟩
  · rcases hk with hk | hk
    · exact h.ap k hk hS
    · have := h.b.lt k hS; omega
  · rcases hk with hk | hk
    · exact h.la k hk
    · exact Nat.le_trans h.bel.size hk.1
  · rcases hk with hk | hk
    · exact h.na k hk ht
    · have := hT k ht; omega
theorem PlX.putB (h : PlX T w W ta rb hs Pa Pb) (hT : ∀ b, T b → b < W.heap.size) (kv vv : Value) (x : En) (hk : IsB W kv x.1) (hv : IsB W vv x.2.2.2) (hu : U64 x.2.1) (hn : Pb.length < 1000) :
    Calls Try.prog 22 #[.pointer (some ⟨rb, 0, none⟩), .agg #[kv, .int .u64 x.2.1, .bool x.2.2.1, vv]] W (fun e w' => e = .returned (.int .i64 (putCF Pb x)) ∧ PlX T w w' ta rb hs Pa (putF hs Pb x) ∧ Chg (fun b => ¬ T b) W w') := by
  obtain ⟨Sa, Sb, h⟩ := h
  obtain ⟨hv9, lv9, rs9, hb9⟩ := h.b
  refine (rput_any kv vv x hb9 hk hv hu hn).mono ?_
  rintro e w' ⟨rfl, q1, q2⟩
  refine ⟨rfl, ⟨Sa, _, h.a.keep (q1.mono fun k _ hk hS => h.ap k hS hk), q2, fun k hk hS => ?_, h.la, fun k hk => ?_, h.na, fun k hk ht => ?_, h.bel.trans (q1.below h.bel.size (fun k hk hS => by have := h.lb k hS; omega))⟩, q1.mono fun k _ hk ht => h.nb k hk ht⟩
  · rcases hS with hS | hS
    · exact h.ap k hk hS
    · have := h.a.lt k hk; omega
  · rcases hk with hk | hk
    · exact h.lb k hk
    · exact Nat.le_trans h.bel.size hk.1
  · rcases hk with hk | hk
    · exact h.nb k hk ht
    · have := hT k ht; omega
end
theorem plx_new {w W0 W1 W2 : World} {ta rb : Nat} {hs : List Int} (h0 : Below w.heap.size w W0) (h1 : TabP (fun k => W0.heap.size ≤ k ∧ k < W1.heap.size) W1 ta hs []) (b1 : Below W0.heap.size W0 W1) (h2 : RefP (fun k => W1.heap.size ≤ k ∧ k < W2.heap.size) W2 rb hs []) (b2 : Below W1.heap.size W1 W2) :
    PlX (fun k => w.heap.size ≤ k ∧ k < W0.heap.size) w W2 ta rb hs [] [] := by
  have s0 := h0.size
  have s1 := b1.size
  exact ⟨_, _, h1.below b2, h2, fun k hk hk2 => by omega, fun k hk => by omega, fun k hk => by omega, fun k hk hk2 => by omega, fun k hk hk2 => by omega, bel_call (bel_call h0 b1) b2⟩
/-- whole numbers that may be written over -/
def WrI (T : Nat → Prop) (w : World) (ao : Option Addr) (n : Nat) : Prop := 0 < n → ∃ g cur, ao = some ⟨g, 0, none⟩ ∧ T g ∧ w.heap[g]? = some (.cells cur 3 (0, 0)) ∧ n ≤ cur.size
theorem WrI.set {T : Nat → Prop} {w : World} {ao : Option Addr} {n b o : Nat} (h : WrI T w ao n) (v : Value) : WrI T (w.setCell ⟨b, o, none⟩ v) ao n := by
  intro hn
  obtain ⟨g', cur, q1, q2, q3, q4⟩ := h hn
  by_cases hg : g' = b
  · subst hg
    exact ⟨g', cur.setIfInBounds o v, q1, q2, heap_setCell_same w g' o cur _ _ q3, by simpa using q4⟩
  · exact ⟨g', cur, q1, q2, by rw [Below.heap_setCell w _ v g' hg]; exact q3, q4⟩
theorem WrI.below {T : Nat → Prop} {w w' : World} {ao : Option Addr} {n : Nat} (h : WrI T w ao n) (hb : Below w.heap.size w w') : WrI T w' ao n := by
  intro hn
  obtain ⟨g', cur, q1, q2, q3, q4⟩ := h hn
  exact ⟨g', cur, q1, q2, (hb.block g' (Array.getElem?_eq_some_iff.1 q3).1).trans q3, q4⟩
theorem WrI.at_ {T : Nat → Prop} {w : World} {ao : Option Addr} {n k : Nat} (h : WrI T w ao n) (hk : k < n) : ∃ g x, ao = some ⟨g, 0, none⟩ ∧ T g ∧ g < w.heap.size ∧ w.cell? ⟨g, k, none⟩ = some x ∧ w.frozen? ⟨g, k, none⟩ = false := by
  obtain ⟨g, cur, rfl, q2, q3, q4⟩ := h (by omega)
  refine ⟨g, cur[k]'(by omega), rfl, q2, (Array.getElem?_eq_some_iff.1 q3).1, ?_, frozen_of_row w g k cur _ q3⟩
  simp [World.cell?, q3, Array.getElem?_eq_getElem (show k < cur.size by omega)]
theorem WrI.of_own {w : World} {base n cap : Nat} {ao : Option Addr} {xs : List Value} (h : w.ownsRow base 3 1 (.slice ao n cap) n xs) : WrI (fun k => base ≤ k ∧ k < w.heap.size) w ao n := by
  intro hn
  rcases h.2 with ⟨hv, hn0⟩ | ⟨g, cap', cur, hv, hg, hh, hnc, hm, hcs, ht⟩
  · omega
  · cases hv
    exact ⟨g, cur, rfl, ⟨hg, (Array.getElem?_eq_some_iff.1 hh).1⟩, hh, by omega⟩
/-- those from a key on are those from its place on -/
theorem from_drop (key : List Int) {P : Pl} (ha : Asc (P.map (·.1))) (hm : ∀ p ∈ P, mayB p.1 = true) : fromE key P = (P.map (·.1)).drop (posF (P.map (·.1)) key 4611686018427387905) := by
  have hp := pos_of key 4611686018427387905 _ ha
  have hal : ∀ p ∈ P, aheadB p.1 key 4611686018427387905 = !decide (0 ≤ cmpB p.1.1 key) := fun p hp => by
    have h1 := hm p hp
    unfold mayB at h1
    simp only [Bool.and_eq_true, decide_eq_true_eq] at h1
    unfold aheadB
    rw [decide_eq_false (show ¬ (4611686018427387905 : Int) < p.1.2.1 by omega), Bool.and_false, Bool.or_false, ← decide_not]
    exact decide_eq_decide.2 (by omega)
  revert hp
  generalize posF (P.map (·.1)) key 4611686018427387905 = pos
  intro hp
  have e1 : fromE key P = ((P.map (·.1)).filter fun y => !aheadB y key 4611686018427387905) := by
    unfold fromE
    rw [List.filter_map]
    congr 1
    refine List.filter_congr fun p hp => ?_
    simp only [Function.comp, hal p hp, Bool.not_not]
  rw [e1]
  have e2 := List.take_append_drop pos (P.map (·.1))
  generalize P.map (·.1) = l at *
  have h1 : (l.take pos).filter (fun y => !aheadB y key 4611686018427387905) = [] := by
    rw [List.filter_eq_nil_iff]
    intro y hy
    obtain ⟨i, hi, rfl⟩ := List.mem_take_iff_getElem.1 hy
    rw [hp.2 i _ (List.getElem?_eq_getElem (by omega))]
    simp
    omega
  have h2 : (l.drop pos).filter (fun y => !aheadB y key 4611686018427387905) = l.drop pos := by
    rw [List.filter_eq_self]
    intro y hy
    obtain ⟨i, hi⟩ := List.mem_iff_getElem?.1 hy
    rw [List.getElem?_drop] at hi
    rw [hp.2 _ _ hi]
    simp
  conv => lhs; rw [← e2]
  rw [List.filter_append, h1, h2, List.nil_append]
theorem gScan {w W : World} {tb : Nat} {hs : List Int} {P : Pl} (h : ShI w W tb hs P) (fv : Value) (key : List Int) (most : Int) (hk : IsB W fv key) (hl : key.length ≤ 140737488355328) (hm : 1 ≤ most ∧ most ≤ 300) :
    Calls Try.prog 13 #[.pointer (some ⟨tb, 0, none⟩), fv, .int .i64 most] W (LevelP ((fromE key P).take most.toNat) W) := by
  obtain ⟨S, h1, h2, h3⟩ := h
  rw [from_drop key h1.asc (fun p hp => (h1.each p hp).1)]
  exact tScan S tb hs P fv key most W h1 hk hl hm
/-- the beginning of a slice -/
theorem IsL.pre {α : Type} {sz : Nat} {R : World → List Value → α → Prop} {w : World} {ao : Option Addr} {n cap k : Nat} {l : List α} (h : IsL sz R w (.slice ao n cap) l) (hk : k ≤ l.length) (ao' : Option Addr) (he : ao' = ao ∨ ∃ m, ao' = ao.map (·.add (0 * m))) : IsL sz R w (.slice ao' k cap) (l.take k) := by
  obtain ⟨ao1, cap1, h1, h2, h3, h4, h5⟩ := h
  cases h1
  have hlen : (l.take k).length = k := by rw [List.length_take]; omega
  have he2 : ao' = none ↔ ao = none := by
    rcases he with rfl | ⟨m, rfl⟩
    · exact Iff.rfl
    · cases ao <;> simp
  refine ⟨ao', cap, by rw [hlen], by rw [hlen]; omega, h3, fun hn => ?_, fun i x hx => ?_⟩
  · obtain ⟨q1, q2⟩ := h4 (he2.1 hn)
    rw [q1, List.take_nil]
    exact ⟨rfl, q2⟩
  · have hx' : l[i]? = some x := by
      rw [List.getElem?_take] at hx
      split at hx
      · exact hx
      · cases hx
    obtain ⟨b, o, cs, rfl, k2, k3, k4, k5⟩ := h5 i x hx'
    refine ⟨b, o, cs, ?_, k2, k3, k4, k5⟩
    rcases he with rfl | ⟨m, rfl⟩
    · rfl
    · rw [Option.map_some, Nat.zero_mul, plain_add']
      rfl
end Mt
end Go.Proofs.Ytgkgfghmpimaoaa
