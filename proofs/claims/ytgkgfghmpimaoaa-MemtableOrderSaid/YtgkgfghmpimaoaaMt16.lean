/- memtable: two tables, and a list of what was met. -/
import Derived.Test.YtgkgfghmpimaoaaMtQ
set_option linter.unusedVariables false
set_option linter.unusedSimpArgs false
namespace Go.Proofs.Ytgkgfghmpimaoaa
open Go.RowKit
namespace Mt
structure OrS (w W : World) (ta tb : Nat) (ha hb : List Int) (Pa Pb : Pl) (mv : Value) (L : List En) (Sa Sb : Nat → Prop) (rs : List EV) : Prop where
  a : TabP Sa W ta ha Pa
  b : TabP Sb W tb hb Pb
  ap : ∀ k, Sa k → ¬ Sb k
  la : ∀ k, Sa k → w.heap.size ≤ k
  lb : ∀ k, Sb k → w.heap.size ≤ k
  bel : Below w.heap.size w W
  eq : rs.map (·.1) = L
  own : W.ownsRow w.heap.size 32 4 mv rs.length (rs.flatMap c4)
  na : ∀ k, mv.ownBlock = some k → ¬ Sa k ∧ ¬ Sb k
  el : ∀ r ∈ rs, IsB w r.2.1 r.1.1 ∧ IsB w r.2.2 r.1.2.2.2 ∧ U64 r.1.2.1
def OrI (w W : World) (ta tb : Nat) (ha hb : List Int) (Pa Pb : Pl) (mv : Value) (L : List En) : Prop := ∃ Sa Sb rs, OrS w W ta tb ha hb Pa Pb mv L Sa Sb rs
section
variable {w W W' : World} {ta tb : Nat} {ha hb : List Int} {Pa Pb : Pl} {mv : Value} {L : List En}
theorem OrI.below (h : OrI w W ta tb ha hb Pa Pb mv L) (k : Below W.heap.size W W') : OrI w W' ta tb ha hb Pa Pb mv L := by
  obtain ⟨Sa, Sb, rs, h⟩ := h
  exact ⟨Sa, Sb, rs, h.a.below k, h.b.below k, h.ap, h.la, h.lb, bel_call h.bel k, h.eq, own_below h.own k, h.na, h.el⟩
theorem OrI.alloc (h : OrI w W ta tb ha hb Pa Pb mv L) (o : Obj) : OrI w (W.alloc o) ta tb ha hb Pa Pb mv L := h.below ((Below.refl _ W).alloc (Nat.le_refl _) o)
theorem OrI.sa (h : OrI w W ta tb ha hb Pa Pb mv L) : ShI w W ta ha Pa := by
  obtain ⟨Sa, Sb, rs, h⟩ := h
  exact ⟨Sa, h.a, h.la, h.bel⟩
theorem OrI.sb (h : OrI w W ta tb ha hb Pa Pb mv L) : ShI w W tb hb Pb := by
  obtain ⟨Sa, Sb, rs, h⟩ := h
  exact ⟨Sb, h.b, h.lb, h.bel⟩
theorem OrI.isEs (h : OrI w W ta tb ha hb Pa Pb mv L) : IsEs W mv L := by
  obtain ⟨Sa, Sb, rs, h⟩ := h
  have hrs := h.eq
  subst hrs
  have ho := h.own
  obtain ⟨ao, cap, rfl, h1, h2, h3, h4⟩ := own_form ho
  refine ⟨ao, cap, by rw [List.length_map], by rw [List.length_map]; exact h1, by unfold maxLen; omega, fun hn => ⟨List.eq_nil_of_length_eq_zero (by rw [List.length_map]; exact (h3 hn).1), (h3 hn).2⟩, fun i x hx => ?_⟩
  rw [List.getElem?_map, Option.map_eq_some_iff] at hx
  obtain ⟨r, hr, rfl⟩ := hx
  have hrm := List.mem_of_getElem? hr
  have hc : ∀ j u, (c4 r)[j]? = some u → (rs.flatMap c4)[i * 4 + j]? = some u := fun j u hu => by
    rw [flat_get c4_len rs i j r hr (by have := (List.getElem?_eq_some_iff.1 hu).1; rwa [c4_len] at this)]; exact hu
  obtain ⟨g, hao, hbg, hgl, hcell⟩ := own_cell ho (hc 0 _ rfl)
  subst hao
  refine ⟨g, 0, c4 r, rfl, hgl, rfl, fun j u hu => ?_, r.2.1, r.2.2, rfl, (h.el r hrm).1.below h.bel, (h.el r hrm).2.1.below h.bel, (h.el r hrm).2.2⟩
  rw [Nat.zero_add]
  exact own_cell' ho (hc j u hu)
theorem OrI.putA (h : OrI w W ta tb ha hb Pa Pb mv L) (kv vv : Value) (x : En) (hk : IsB W kv x.1) (hv : IsB W vv x.2.2.2) (hu : U64 x.2.1) (hn : Pa.length < 1000) :
    Calls Try.prog 21 #[.pointer (some ⟨ta, 0, none⟩), .agg #[kv, .int .u64 x.2.1, .bool x.2.2.1, vv]] W (fun e w' => ∃ c, e = .returned (.int .i64 c) ∧ OrI w w' ta tb ha hb (putF ha Pa x) Pb mv L) := by
  obtain ⟨Sa, Sb, rs, h⟩ := h
  refine (tPut Sa ta ha Pa kv vv x W h.a hk hv hu hn).mono ?_
  rintro e w' ⟨rfl, q1, q2⟩
  refine ⟨_, rfl, _, Sb, rs, q2, h.b.keep (q1.mono fun k _ hk hS => h.ap k hk hS), fun k hk hS => ?_, fun k hk => ?_, h.lb, h.bel.trans (q1.below h.bel.size (fun k hk hS => by have := h.la k hS; omega)), h.eq, q1.own h.own (fun k hk => (h.na k hk).1), fun k hk => ⟨fun hS => ?_, (h.na k hk).2⟩, h.el⟩
  · rcases hk with hk | hk
    · exact h.ap k hk hS
    · have := h.b.lt k hS; omega
  · rcases hk with hk | hk
    · exact h.la k hk
    · exact Nat.le_trans h.bel.size hk.1
  · rcases hS with hS | hS
    · exact (h.na k hk).1 hS
    · have := (h.own.lt k hk).2; omega
theorem OrI.putB (h : OrI w W ta tb ha hb Pa Pb mv L) (kv vv : Value) (x : En) (hk : IsB W kv x.1) (hv : IsB W vv x.2.2.2) (hu : U64 x.2.1) (hn : Pb.length < 1000) :
    Calls Try.prog 21 #[.pointer (some ⟨tb, 0, none⟩), .agg #[kv, .int .u64 x.2.1, .bool x.2.2.1, vv]] W (fun e w' => ∃ c, e = .returned (.int .i64 c) ∧ OrI w w' ta tb ha hb Pa (putF hb Pb x) mv L) := by
  obtain ⟨Sa, Sb, rs, h⟩ := h
  refine (tPut Sb tb hb Pb kv vv x W h.b hk hv hu hn).mono ?_
  rintro e w' ⟨rfl, q1, q2⟩
  refine ⟨_, rfl, Sa, _, rs, h.a.keep (q1.mono fun k _ hk hS => h.ap k hS hk), q2, fun k hk hS => ?_, h.la, fun k hk => ?_, h.bel.trans (q1.below h.bel.size (fun k hk hS => by have := h.lb k hS; omega)), h.eq, q1.own h.own (fun k hk => (h.na k hk).2), fun k hk => ⟨(h.na k hk).1, fun hS => ?_⟩, h.el⟩
  · rcases hS with hS | hS
    · exact h.ap k hk hS
    · have := h.a.lt k hk; omega
  · rcases hk with hk | hk
    · exact h.lb k hk
    · exact Nat.le_trans h.bel.size hk.1
  · rcases hS with hS | hS
    · exact (h.na k hk).2 hS
    · have := (h.own.lt k hk).2; omega
/-- one more that was met -/
theorem OrS.push {Sa Sb : Nat → Prop} {rs : List EV} {mv' : Value} {kv vv : Value} {x : En} (h : OrS w W ta tb ha hb Pa Pb mv L Sa Sb rs) (hk : IsB w kv x.1) (hv : IsB w vv x.2.2.2) (hu : U64 x.2.1)
    (ho : W'.ownsRow w.heap.size 32 4 mv' (rs.length + 1) (rs.flatMap c4 ++ [kv, .int .u64 x.2.1, .bool x.2.2.1, vv])) (hg : W.grownBy W' mv.ownBlock) (hb9 : mv'.ownBlock = mv.ownBlock ∨ ∃ k, mv'.ownBlock = some k ∧ W.heap.size ≤ k) : OrI w W' ta tb ha hb Pa Pb mv' (L ++ [x]) := by
  have c : Chg (fun k => mv.ownBlock = some k) W W' := Chg.of_grown hg (fun _ _ h => h)
  refine ⟨Sa, Sb, rs ++ [(x, kv, vv)], h.a.keep (c.mono fun k _ hk hS => (h.na k hk).1 hS), h.b.keep (c.mono fun k _ hk hS => (h.na k hk).2 hS), h.ap, h.la, h.lb, h.bel.trans (c.below h.bel.size (fun k hk hS => by have := (h.own.lt k hS).1; omega)), by rw [List.map_append, h.eq]; rfl, by rw [List.length_append, List.flatMap_append, List.flatMap_cons, List.flatMap_nil, List.append_nil]; exact ho, fun k hk => ?_, fun r hr => ?_⟩
  · rcases hb9 with e | ⟨j, e, hj⟩
    · exact h.na k (e ▸ hk)
    · rw [e] at hk
      cases hk
      exact ⟨fun hS => by have := h.a.lt _ hS; omega, fun hS => by have := h.b.lt _ hS; omega⟩
  · rcases List.mem_append.1 hr with hr | hr
    · exact h.el r hr
    · rw [List.mem_singleton] at hr
      subst hr
      exact ⟨hk, hv, hu⟩
end
theorem or_new {w W1 W2 : World} {ta tb : Nat} {ha hb : List Int} {Sa Sb : Nat → Prop} (h1 : TabP Sa W1 ta ha []) (l1 : ∀ k, Sa k → w.heap.size ≤ k) (b1 : Below w.heap.size w W1) (h2 : TabP Sb W2 tb hb []) (l2 : ∀ k, Sb k → W1.heap.size ≤ k) (b2 : Below W1.heap.size W1 W2) : OrI w W2 ta tb ha hb [] [] (.slice none 0 0) [] :=
  ⟨Sa, Sb, [], h1.below b2, h2, fun k hk hS => by have := h1.lt k hk; have := l2 k hS; omega, l1, fun k hk => Nat.le_trans b1.size (l2 k hk), bel_call b1 b2, rfl, World.ownsRow_nil _ _ _ _, fun k hk => (by cases hk), fun r hr => (by cases hr)⟩
end Mt
end Go.Proofs.Ytgkgfghmpimaoaa
