/- PM: a slice of a box that is not written to any more is data. No program in sight. -/
import Derived.Test.YtfkemeamimcnjaaDoorPmD
namespace Go.Proofs.YtfkemeamimcnjaaDoor
open Go.RowKit
namespace PM
section
variable {P : Program} {G : Gh} {m : Mem} {w : World}
theorem box_none {id id' : Nat} {x : TypeId × List AV} (h : (m.box.set id none)[id']? = some (some x)) : id' ≠ id ∧ m.box[id']? = some (some x) := by
  rw [List.getElem?_set] at h
  split at h
  · split at h <;> cases h
  · rename_i hn; exact ⟨fun he => hn he.symm, h⟩
theorem mut_none {id b o : Nat} (h : Mut G ⟨m.box.set id none, m.row⟩ b o) : Mut G m b o := by
  rcases h with ⟨id', e, cs, h1, h2⟩ | h
  · exact .inl ⟨id', e, cs, (box_none h1).2, h2⟩
  · exact .inr h
theorem ev_none (G : Gh) (m : Mem) (w : World) (id : Nat) : Ev G m w G ⟨m.box.set id none, m.row⟩ w :=
  ⟨rfl, .refl _ _, fun _ _ h => .inl (mut_none h), fun _ _ => rfl, by simp, Nat.le_refl _, fun _ i _ h => ⟨i, h, Nat.le_refl _, fun _ => ⟨rfl, rfl⟩⟩⟩
theorem mem_none (hm : MemR G m w) (id : Nat) : MemR G ⟨m.box.set id none, m.row⟩ w := by
  refine ⟨hm.avlt, fun id' e cs h => ?_, hm.row, fun i j x y h1 h2 => hm.bb i j x y (box_none h1).2 (box_none h2).2, hm.rr, fun i j x y h1 h2 => hm.br i j x y (box_none h1).2 h2⟩
  obtain ⟨⟨vs, o, k1, k2, k3⟩, k4⟩ := hm.box id' e cs (box_none h).2
  exact ⟨⟨vs, o, k1, k2.mono (ev_none G m w id), k3⟩, k4⟩
/-- a slice of a box, from now on data -/
theorem PW.freezeS {c : Code} {Q : Exit → St → Prop} {s : St} (i id off n cap k : Nat) {xs : List (List DV)} {b : TypeId × List AV} (hi : s.t i = .bsl id off n cap k) (hb : s.m.box[id]? = some (some b)) (hv : viewA s.m (.bsl id off n 0 k) = .d (.sl k xs))
    (h : PW P c Q ⟨upd s.t i (.d (.sl k xs)), s.n, ⟨s.m.box.set id none, s.m.row⟩⟩) : PW P c Q s := fun G a w hs => by
  have hev := ev_none G s.m w id
  refine wp_mono (h G a w ⟨mem_none hs.mem id, fun j => ?_, hs.n, hs.df⟩) fun e a' w' ⟨G', s', q1, q2, q3⟩ => ⟨G', s', q1, hev.trans q2, q3⟩
  show RelA _ _ _ (upd s.t i _ j) _
  by_cases hj : j = i
  · subst hj
    rw [upd_eq]
    have h1 := hs.t j
    rw [hi] at h1
    have h2 := view_rel hs.mem h1 hv
    refine relA_d (RelD.mono (Pre.same fun b o hn => ?_) _ _ h2)
    refine .inl ⟨?_, ?_⟩
    · exact hn.elim .inl (fun h => .inr (mut_none h))
    · rintro rfl
      obtain ⟨b1, b2⟩ := b
      rcases hn with hn | ⟨id', e, cs, q1, q2⟩ | ⟨r, i', q1, q2, -⟩
      · exact (hs.mem.box _ _ _ hb).2 o hn
      · obtain ⟨q3, q4⟩ := box_none q1
        exact q3 (hs.mem.bb id' id _ _ q4 hb q2)
      · exact hs.mem.br id r _ _ hb q1 q2
  · rw [upd_ne _ _ hj]
    exact (hs.t j).mono hev
end
end PM
end Go.Proofs.YtfkemeamimcnjaaDoor
