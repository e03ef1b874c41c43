/- memtable: Put: the table behind it (in the world). -/
import Derived.Test.YtgkgfghmpimaoaaMt9a
set_option linter.unusedVariables false
set_option linter.unusedSimpArgs false
namespace Go.Proofs.Ytgkgfghmpimaoaa
open Go.RowKit
namespace Mt
theorem insN_perm (L : List Nd) (pos : Nat) (n : Nd) : (insN L pos n).Perm (n :: L) := by
  unfold insN
  refine List.perm_middle.trans ?_
  rw [List.take_append_drop]
theorem insN_len (L : List Nd) (pos : Nat) (n : Nd) : (insN L pos n).length = L.length + 1 := (insN_perm L pos n).length_eq
theorem bytesE_ins (L : List Nd) (pos : Nat) (n : Nd) : bytesE ((insN L pos n).map (·.x)) = bytesE (L.map (·.x)) + sizeE n.x := by
  have h : (((insN L pos n).map (·.x)).map sizeE).Perm (((n :: L).map (·.x)).map sizeE) := ((insN_perm L pos n).map _).map _
  unfold bytesE
  rw [h.sum_nat]
  simp only [List.map_cons, List.sum_cons]
  omega
theorem NdI.turn {S S' T : Nat → Prop} {w w' : World} {m : Nd} (h : NdI S w m) (c : Chg T w w') (hs : ∀ b, S b → S' b) (ht : ∀ b cur e, w.heap[b]? = some (.cells cur e (0, 0)) → e ≠ 54 → e ≠ 59 → ¬ T b)
    (hr : ∃ cur, w'.heap[m.r]? = some (.cells cur 54 (0, 0)) ∧ cur.size = m.h) : NdI S' w' m :=
  ⟨(c.block _ (Array.getElem?_eq_some_iff.1 h.obj).1 (ht _ _ _ h.obj (by decide) (by decide))).trans h.obj, hr,
    c.ownS h.k (fun b hb => by obtain ⟨cu, hc⟩ := h.k.typed b hb; exact ht b cu _ hc (by decide) (by decide)), c.ownS h.v (fun b hb => by obtain ⟨cu, hc⟩ := h.v.typed b hb; exact ht b cu _ hc (by decide) (by decide)),
    hs _ h.sb, hs _ h.sr, fun b hb => hs b (h.sk b hb), fun b hb => hs b (h.sv b hb), h.u, h.hh, h.sh⟩
theorem TabI.put {S : Nat → Prop} {wc wr : World} {tb B : Nat} {hs : List Int} {hd : Nd} {L : List Nd} {pos : Nat} {n : Nd} (hT : TabI S wc tb hs hd L) (hN : NdI (fun b => B ≤ b ∧ b < wc.heap.size) wc n) (hP : PutI wc wr hd L pos n n.h) (hp : pos ≤ L.length) (hne : (n :: hd :: L).Pairwise fun a b => a.r ≠ b.r)
    (hasc : Asc ((insN L pos n).map (·.x))) (hmay : mayB n.x = true) (hlen : L.length < 1000) {a b : Int} (ha : a = (L.length : Int) + 1) (hb : b = ((bytesE (L.map (·.x)) : Nat) : Int) + (sizeE n.x : Nat)) :
    TabI (fun k => S k ∨ B ≤ k ∧ k < wr.heap.size) ((wr.setCell ⟨tb, 2, none⟩ (.int .i64 a)).setCell ⟨tb, 3, none⟩ (.int .i64 b)) tb hs hd (insN L pos n) := by
  have htyp : ∀ nd ∈ n :: hd :: L, ∃ cur, wc.heap[nd.r]? = some (.cells cur 54 (0, 0)) := fun nd hnd => by
    rcases List.mem_cons.1 hnd with rfl | hnd
    · obtain ⟨c, h1, -⟩ := hN.row; exact ⟨c, h1⟩
    · obtain ⟨c, h1, -⟩ := (hT.nds nd hnd).row; exact ⟨c, h1⟩
  have NR : ∀ b cur e, wc.heap[b]? = some (.cells cur e (0, 0)) → e ≠ 54 → ¬ RowsOf hd L n b := fun b cur e h1 h2 ⟨nd, h3, h4⟩ => by
    obtain ⟨c2, h5⟩ := htyp nd h3
    rw [h4] at h1
    exact h2 (types_apart h1 h5)
  obtain ⟨hv, o1, o2, o3⟩ := hT.obj
  have o1r := (hP.chg.block _ (Array.getElem?_eq_some_iff.1 o1).1 (NR _ _ _ o1 (by decide))).trans o1
  have tbne : ∀ nd ∈ n :: hd :: L, nd.r ≠ tb := fun nd hnd e => by
    obtain ⟨c2, h5⟩ := htyp nd hnd
    rw [e] at h5
    exact absurd (types_apart o1 h5) (by decide)
  have C : Chg (fun k => RowsOf hd L n k ∨ k = tb) wc ((wr.setCell ⟨tb, 2, none⟩ (.int .i64 a)).setCell ⟨tb, 3, none⟩ (.int .i64 b)) := ((hP.chg.mono (T := fun k => RowsOf hd L n k ∨ k = tb) (fun k _ h => .inl h)).set (p := ⟨tb, 2, none⟩) (fun _ => .inr rfl) _).set (p := ⟨tb, 3, none⟩) (fun _ => .inr rfl) _
  have ht : ∀ k cur e, wc.heap[k]? = some (.cells cur e (0, 0)) → e ≠ 54 → e ≠ 59 → ¬ (RowsOf hd L n k ∨ k = tb) := fun k cur e h1 h2 h3 h4 => by
    rcases h4 with h4 | h4
    · exact NR k cur e h1 h2 h4
    · rw [h4] at h1
      exact h3 (types_apart h1 o1)
  have htypr : ∀ nd ∈ n :: hd :: L, ∃ cur, ((wr.setCell ⟨tb, 2, none⟩ (.int .i64 a)).setCell ⟨tb, 3, none⟩ (.int .i64 b)).heap[nd.r]? = some (.cells cur 54 (0, 0)) ∧ cur.size = nd.h := fun nd hnd => by
    obtain ⟨cur, h1, h2⟩ := hP.typ nd hnd
    exact ⟨cur, by rw [Below.heap_setCell _ _ _ _ (tbne nd hnd), Below.heap_setCell _ _ _ _ (tbne nd hnd)]; exact h1, h2⟩
  have hcell : ∀ nd ∈ n :: hd :: L, ∀ j, ((wr.setCell ⟨tb, 2, none⟩ (.int .i64 a)).setCell ⟨tb, 3, none⟩ (.int .i64 b)).cell? ⟨nd.r, j, none⟩ = wr.cell? ⟨nd.r, j, none⟩ := fun nd hnd j => by
    rw [World.cell?_setCell_other _ _ _ _ (fun e => by simp only [Addr.mk.injEq] at e; exact tbne nd hnd e.1.symm), World.cell?_setCell_other _ _ _ _ (fun e => by simp only [Addr.mk.injEq] at e; exact tbne nd hnd e.1.symm)]
  have hmem : ∀ m, m ∈ hd :: insN L pos n ↔ m ∈ n :: hd :: L := fun m => by
    simp only [List.mem_cons, (insN_perm L pos n).mem_iff]
    constructor <;> (rintro (h | h | h) <;> simp [h])
  have hsz : wr.heap.size = ((wr.setCell ⟨tb, 2, none⟩ (.int .i64 a)).setCell ⟨tb, 3, none⟩ (.int .i64 b)).heap.size := by simp
  refine ⟨⟨hv, ?_, C.own o2 (fun k hk => by obtain ⟨-, -, cu, hc⟩ := own_typed o2 k hk; exact ht k cu _ hc (by decide) (by decide)), fun k hk => .inl (o3 k hk)⟩, hT.hI, fun m hm => ?_, fun idx m hi j hj => ?_, ?_, hT.hh, hT.hx, hasc, fun m hm => ?_, by rw [insN_len]; omega, .inl hT.stb, fun k hk => ?_⟩
  · have s1 := heap_setCell_same wr tb 2 _ _ (.int .i64 a) o1r
    have s2 := heap_setCell_same _ tb 3 _ _ (.int .i64 b) s1
    rw [s2, insN_len, bytesE_ins, ha, hb]
    rfl
  · rcases List.mem_cons.1 ((hmem m).1 hm) with rfl | h
    · refine hN.turn C (fun k hk => ?_) ht (htypr _ (List.mem_cons_self ..))
      exact .inr ⟨hk.1, Nat.lt_of_lt_of_le hk.2 hP.chg.size⟩
    · exact (hT.nds m h).turn C (fun k hk => .inl hk) ht (htypr m (List.mem_cons_of_mem _ h))
  · have hlt : (L.take pos).length = pos := by rw [List.length_take]; omega
    rcases Nat.lt_or_ge pos idx with hgt | hle
    · obtain ⟨q, rfl⟩ : ∃ q, idx = q + 1 := ⟨idx - 1, by omega⟩
      rw [List.getElem?_cons_succ] at hi
      unfold insN at hi
      rw [List.getElem?_append_right (by omega), hlt] at hi
      have hd1 : (hd :: insN L pos n).drop (q + 1 + 1) = (insN L pos n).drop (q + 1) := rfl
      rw [hd1]
      have hd2 : (insN L pos n).drop (q + 1) = L.drop q := by
        unfold insN
        rw [List.drop_append, hlt, List.drop_eq_nil_of_le (by omega), List.nil_append, show q + 1 - pos = (q - pos) + 1 by omega, List.drop_succ_cons, List.drop_drop, show pos + (q - pos) = q by omega]
      rw [hd2]
      rcases Nat.eq_or_lt_of_le (Nat.le_of_lt_succ hgt) with rfl | hgt2
      · rw [Nat.sub_self] at hi
        cases hi
        rw [hcell _ (List.mem_cons_self ..), hP.nrow j hj, if_pos hj]
      · rw [show q - pos = (q - pos - 1) + 1 by omega, List.getElem?_cons_succ, List.getElem?_drop, show pos + (q - pos - 1) = q - 1 by omega] at hi
        have hi2 : (hd :: L)[q]? = some m := by
          rw [show q = (q - 1) + 1 by omega, List.getElem?_cons_succ]; exact hi
        rw [hcell _ (List.mem_cons_of_mem _ (List.mem_of_getElem? hi2)), hP.rows q m hi2 j hj, ptr_end n hp, if_neg (by omega)]
    · have hi2 : (hd :: L)[idx]? = some m := by
        cases idx with
        | zero => exact hi
        | succ q =>
          rw [List.getElem?_cons_succ] at hi ⊢
          unfold insN at hi
          rw [List.getElem?_append_left (by omega), List.getElem?_take_of_lt (by omega)] at hi
          exact hi
      rw [hcell _ (List.mem_cons_of_mem _ (List.mem_of_getElem? hi2)), hP.rows idx m hi2 j hj, ptr_end n hp, if_pos hle]
      rfl
  · have hperm : (n :: hd :: L).Perm (hd :: insN L pos n) := ((List.Perm.swap hd n L)).trans ((insN_perm L pos n).symm.cons hd)
    exact (hperm.pairwise_iff (fun {a b} h => h.symm)).1 hne
  · rcases List.mem_cons.1 ((insN_perm L pos n).mem_iff.1 hm) with rfl | h
    · exact hmay
    · exact hT.may m h
  · rcases hk with hk | hk
    · exact Nat.lt_of_lt_of_le (hT.lt k hk) C.size
    · rw [← hsz]; exact hk.2
end Mt
end Go.Proofs.Ytgkgfghmpimaoaa
