/- copy(d, s) of bytes into a row of the call's own. No program in sight. -/
import Derived.Test.YtlolgiphppbcmaaDoorOwnS
import Derived.Laws.CopyOwn
namespace Go.Proofs.YtlolgiphppbcmaaDoor
open Go.RowKit
theorem gb_setRow {w : World} {g : Nat} (cs : Array Value) : w.grownBy (w.setRow g cs) (some g) :=
  ⟨rfl, rfl, rfl, by simp, fun i hi hn => setRow_other w g i cs (fun e => hn (by rw [e]))⟩
theorem wpList_copy_bytes {P : Program} {w : World} {base : Nat} {e : TypeId} {v u : Value} {n : Nat} {ds ms : List Int} {ops : Array Oper} {rest : List Oper} {o : Oper} {a : Act} {Q : Exit → Act → World → Prop} (hgd : o.guard = none) (d s : Operand) (dT sT : TypeId)
    (ho : o.op = .call { callee := .builtin .copy, args := #[d, s], argTypes := #[dT, sT] }) (hu : P.underlying dT = some (.slice e)) (hsz : (P.info? e).map (·.size) = some 1)
    (hd : a.eval d = v) (hs : a.eval s = u) (hown : w.ownsRow base e 1 v n (ds.map (Value.int .u8))) (hB : IsB w u ms) (hle : ms.length ≤ n)
    (h : ∀ w', w'.ownsRow base e 1 v n ((ms ++ ds.drop ms.length).map (Value.int .u8)) → w.grownBy w' v.ownBlock → wpList P ops Q rest (a.put o.dst (goInt ms.length)) w') : wpList P ops Q (o :: rest) a w := by
  have hn : ds.length = n := by have := own_len hown; simpa using this
  obtain ⟨h0, sp, sCap, rfl, h2, h3, h4, h5⟩ := hB
  rcases Nat.eq_zero_or_pos ms.length with hz | hp
  · have hm0 : ms = [] := List.eq_nil_of_length_eq_zero hz
    subst hm0
    obtain ⟨ao, cap, hv, _, _, _, _⟩ := own_form hown
    have hq := h w (by simpa using hown) (World.grownBy.refl w _)
    exact wpList_copy_nothing hgd d s dT sT ho e hu hsz ao sp n cap 0 sCap (hd.trans hv) hs (by simp) hq
  · rcases hown.2 with ⟨rfl, hn0⟩ | ⟨g, cap, cur, rfl, hg, hh, hnc, hm, hcs, ht⟩
    · omega
    · rcases sp with _ | ad
      · have := (h4 rfl).1
        rw [this] at hp; simp at hp
      · obtain ⟨k1, k2, k3⟩ := h5 ad rfl hp
        obtain ⟨b, off, sp'⟩ := ad
        simp only at k1 k2 k3
        subst k1
        have hlen : (ms.map (Value.int .u8)).length = ms.length := by simp
        refine wpList_copy_own hgd d s dT sT ho e hu hsz g 0 n cap ⟨b, off, none⟩ ms.length sCap hd hs cur e hh (ms.map (Value.int .u8)) (by rw [hlen]; exact (Nat.min_eq_left hle).symm) ?_ (by rw [hlen]; omega) (ints_oneCell _ _) ?_
        · intro j z hj
          rw [List.getElem?_map, Option.map_eq_some_iff] at hj
          obtain ⟨y, hy, rfl⟩ := hj
          have hjl := (List.getElem?_eq_some_iff.1 hy).1
          rw [plain_add', k3 j hjl]
          simp [List.getD, hy]
        · rw [hlen]
          refine h _ ⟨by simp; omega, .inr ⟨g, cap, _, rfl, hg, setRow_heap w g cur _ e (0, 0) hh, hnc, hm, ?_, ?_⟩⟩ (gb_setRow _)
          · simp only [List.size_toArray, List.length_append, List.length_take, List.length_drop, Array.length_toList, List.length_map]
            omega
          · have ht' : cur.toList.take n = ds.map (Value.int .u8) := by simpa using ht
            simp only [List.take_zero, List.nil_append, Nat.zero_add, Nat.mul_one, List.map_append, List.map_drop]
            rw [← ht', List.take_append, List.take_of_length_le (by simp; omega), hlen, List.drop_take]
/-- copy into the row's rest from place k on -/
theorem wpList_copy_at {P : Program} {w : World} {base : Nat} {e : TypeId} {g n cap k : Nat} {u : Value} {ds ms : List Int} {ops : Array Oper} {rest : List Oper} {o : Oper} {a : Act} {Q : Exit → Act → World → Prop} (hgd : o.guard = none) (d s : Operand) (dT sT : TypeId)
    (ho : o.op = .call { callee := .builtin .copy, args := #[d, s], argTypes := #[dT, sT] }) (hu : P.underlying dT = some (.slice e)) (hsz : (P.info? e).map (·.size) = some 1)
    (hd : a.eval d = .slice (some ⟨g, k, none⟩) (n - k) (cap - k)) (hs : a.eval s = u) (hown : w.ownsRow base e 1 (.slice (some ⟨g, 0, none⟩) n cap) n (ds.map (Value.int .u8))) (hB : IsB w u ms) (hle : k + ms.length ≤ n)
    (h : ∀ w', w'.ownsRow base e 1 (.slice (some ⟨g, 0, none⟩) n cap) n ((ds.take k ++ ms ++ ds.drop (k + ms.length)).map (Value.int .u8)) → w.grownBy w' (some g) → wpList P ops Q rest (a.put o.dst (goInt ms.length)) w') : wpList P ops Q (o :: rest) a w := by
  have hn : ds.length = n := by have := own_len hown; simpa using this
  obtain ⟨h0, sp, sCap, rfl, h2, h3, h4, h5⟩ := hB
  rcases Nat.eq_zero_or_pos ms.length with hz | hp
  · have hm0 : ms = [] := List.eq_nil_of_length_eq_zero hz
    subst hm0
    have hq := h w (by simpa using hown) (World.grownBy.refl w _)
    exact wpList_copy_nothing hgd d s dT sT ho e hu hsz (some ⟨g, k, none⟩) sp (n - k) (cap - k) 0 sCap hd hs (by simp) hq
  · rcases hown.2 with ⟨hv, hn0⟩ | ⟨g', cap', cur, hv, hg, hh, hnc, hm, hcs, ht⟩
    · cases hv
    · simp only [Value.slice.injEq, Option.some.injEq, Addr.mk.injEq, and_true, true_and] at hv
      obtain ⟨rfl, rfl⟩ := hv
      rcases sp with _ | ad
      · have := (h4 rfl).1
        rw [this] at hp; simp at hp
      · obtain ⟨k1, k2, k3⟩ := h5 ad rfl hp
        obtain ⟨b, off, sp'⟩ := ad
        simp only at k1 k2 k3
        subst k1
        have hlen : (ms.map (Value.int .u8)).length = ms.length := by simp
        refine wpList_copy_own hgd d s dT sT ho e hu hsz g k (n - k) (cap - k) ⟨b, off, none⟩ ms.length sCap hd hs cur e hh (ms.map (Value.int .u8)) (by rw [hlen]; exact (Nat.min_eq_left (by omega)).symm) ?_ (by rw [hlen]; omega) (ints_oneCell _ _) ?_
        · intro j z hj
          rw [List.getElem?_map, Option.map_eq_some_iff] at hj
          obtain ⟨y, hy, rfl⟩ := hj
          have hjl := (List.getElem?_eq_some_iff.1 hy).1
          rw [plain_add', k3 j hjl]
          simp [List.getD, hy]
        · rw [hlen]
          refine h _ ⟨by simp; omega, .inr ⟨g, cap, _, rfl, hg, setRow_heap w g cur _ e (0, 0) hh, hnc, hm, ?_, ?_⟩⟩ (gb_setRow _)
          · simp only [List.size_toArray, List.length_append, List.length_take, List.length_drop, Array.length_toList, List.length_map]
            omega
          · have ht' : cur.toList.take n = ds.map (Value.int .u8) := by simpa using ht
            have hcl : cur.toList.length = cur.size := Array.length_toList
            simp only [Nat.mul_one, List.map_append, List.map_drop, List.map_take]
            rw [← ht', ← List.append_assoc, List.take_append, List.take_of_length_le (by simp; omega), List.take_take, Nat.min_eq_left (by omega)]
            congr 1
            rw [List.length_append, List.length_take, hlen, List.drop_take, Nat.min_eq_left (by omega)]
end Go.Proofs.YtlolgiphppbcmaaDoor
