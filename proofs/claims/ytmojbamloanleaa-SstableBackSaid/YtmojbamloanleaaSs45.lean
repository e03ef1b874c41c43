/- sstable: what was built is read back, plain. sstable: the order of entries, and a filter holds what it was made of, plain (as in memtable's and bloom's own claims). sstable: what is scanned and got of a table that was built, plain. sstable: the blocks of a table that was built, plain. -/
import Derived.Test.YtmojbamloanleaaSs37
import Derived.Test.YtmojbamloanleaaSsM3
import Derived.Test.YtmojbamloanleaaBloomMake
import Derived.Test.YtmojbamloanleaaSs43
set_option linter.unusedVariables false
set_option linter.unusedSimpArgs false
namespace Go.Proofs.Ytmojbamloanleaa
open Go.RowKit
namespace Ss
open Mt Codec
theorem numF_num {n : Nat} (h : n < 18446744073709551616) (r : List Int) : numF (numN n ++ r) = some ((n : Int), r) := by
  unfold numF
  rw [takeN_num h]
  simp
theorem comL_take : ∀ (a b : List Int), a.take (comL a b) = b.take (comL a b)
  | x :: a, y :: b => by
    unfold comL
    split
    · rename_i e
      subst e
      rw [List.take_succ_cons, List.take_succ_cons, comL_take a b]
    · rfl
  | [], _ => by simp [comL]
  | _ :: _, [] => by simp [comL]
theorem may_facts {x : En} (h : mayB x = true) : 1 ≤ x.1.length ∧ x.1.length ≤ 256 ∧ 1 ≤ x.2.1 ∧ x.2.1 ≤ 4611686018427387904 ∧ x.2.2.2.length ≤ 65536 := by
  unfold mayB at h
  simp only [Bool.and_eq_true, decide_eq_true_eq] at h
  exact ⟨h.1, h.2.1, h.2.2.1, h.2.2.2.1, h.2.2.2.2.1⟩
/-- an entry is read back -/
theorem entry_back {a : List Int} {e : En} (he : mayB e = true) (r : List Int) : entryF (layS a e ++ r) a = some (e, r) := by
  obtain ⟨k1, k2, s1, s2, v1⟩ := may_facts he
  obtain ⟨c1, c2⟩ := comL_le a e.1
  have ct := comL_take a e.1
  unfold layS
  generalize comL a e.1 = c at c1 c2 ct ⊢
  simp only [List.append_assoc]
  unfold entryF
  rw [numF_num (by omega)]
  simp only
  rw [numF_num (by omega)]
  simp only
  rw [numF_num (by omega)]
  simp only
  rw [List.singleton_append]
  unfold restF
  have hd : ¬ (1 : Int) < (if e.2.2.1 = true then 1 else 0) := by split <;> omega
  simp only
  rw [if_neg hd, numF_num (by omega)]
  simp only
  have hl : (e.1.drop c).length = e.1.length - c := List.length_drop
  rw [if_neg (by
    simp only [List.length_append, hl]
    omega)]
  simp only [Int.toNat_natCast]
  rw [List.take_left' hl, List.drop_left' hl, List.take_left' rfl, List.drop_left' rfl, ct, List.take_append_drop]
  obtain ⟨key, seq, del, val⟩ := e
  simp only at s1 s2 ⊢
  congr 1
  rw [Prod.mk.injEq, Prod.mk.injEq, Prod.mk.injEq, Prod.mk.injEq]
  exact ⟨⟨rfl, by omega, by cases del <;> rfl, rfl⟩, rfl⟩
/-- the bytes of entries behind a key -/
def lays : List Int → List En → List Int
  | _, [] => []
  | a, e :: r => layS a e ++ lays e.1 r
theorem body_lays : ∀ (bl : List En) (p : List Int × List Int), (bl.foldl (fun p e => (p.1 ++ layS p.2 e, e.1)) p).1 = p.1 ++ lays p.2 bl
  | [], p => by simp [lays]
  | e :: r, p => by
    rw [List.foldl_cons, body_lays r]
    simp only [lays, List.append_assoc]
theorem lays_back : ∀ (bl : List En) (a : List Int), (∀ e ∈ bl, mayB e = true) → Rng (lays a bl) → bodyR (lays a bl) a = some bl
  | [], a, _, _ => bodyR_nil a
  | e :: r, a, hm, hR => by
    have e0 : lays a (e :: r) = layS a e ++ lays e.1 r := rfl
    rw [e0] at hR ⊢
    have hne : layS a e ++ lays e.1 r ≠ [] := fun h => by
      have h1 := congrArg List.length h
      unfold layS at h1
      simp only [List.length_append, List.length_nil] at h1
      have := numN_pos (comL a e.1)
      omega
    rw [bodyR_step hR hne, entry_back (hm e (by simp))]
    simp only
    rw [lays_back r e.1 (fun x hx => hm x (by simp [hx])) (fun y hy => hR y (List.mem_append_right _ hy))]
    rfl
theorem frame_back {b : List En} (hm : ∀ e ∈ b, mayB e = true) (hl : (bodyF b).1.length ≤ 2097152) (hR : Rng (bodyF b).1) (m : List Int) : framR (frameF 68 (bodyF b).1 ++ m) = some b := by
  unfold framR
  rw [takeFrameF_frame (by decide) _ m hl, if_pos rfl]
  have e : (bodyF b).1 = lays [] b := by
    unfold bodyF
    rw [body_lays]
    rfl
  simp only
  rw [e] at hR ⊢
  exact lays_back b [] hm hR
theorem framN_frame {x : List Int} (hl : x.length ≤ 2097152) (m : List Int) : framN (frameF 68 x ++ m) = (frameF 68 x).length := by
  unfold framN
  rw [takeFrameF_frame (by decide) x m hl, frameF_length]
  simp only
  omega
/-- blocks from a place on -/
def blkL : Nat → List (List En) → List Blk
  | _, [] => []
  | p, b :: D => (p, p + (frameF 68 (bodyF b).1).length, b) :: blkL (p + (frameF 68 (bodyF b).1).length) D
theorem blks_back : ∀ (D : List (List En)) (k : Nat) (pre rest : List Int), D.length ≤ k → (∀ b ∈ D, b ≠ [] ∧ (∀ e ∈ b, mayB e = true) ∧ (bodyF b).1.length ≤ 2097152 ∧ Rng (bodyF b).1) → rest[0]? ≠ some 68 →
    blocksF k (pre ++ (frs (D.map fun b => (bodyF b).1) ++ rest)) pre.length = some (blkL pre.length D, pre.length + (frs (D.map fun b => (bodyF b).1)).length)
  | [], k, pre, rest, _, _, hr => by
    have e : (pre ++ (frs (([] : List (List En)).map fun b => (bodyF b).1) ++ rest))[pre.length]? = rest[0]? := by
      rw [List.getElem?_append_right (Nat.le_refl _), Nat.sub_self]
      rfl
    cases k <;> (unfold blocksF; rw [e, if_neg hr]; rfl)
  | b :: D, 0, pre, rest, h, _, _ => by simp at h
  | b :: D, k + 1, pre, rest, h, hD, hr => by
    obtain ⟨b1, b2, b3, b4⟩ := hD b (by simp)
    have e0 : frs ((b :: D).map fun b => (bodyF b).1) ++ rest = frameF 68 (bodyF b).1 ++ (frs (D.map fun b => (bodyF b).1) ++ rest) := by
      rw [List.map_cons, frs_cons, List.append_assoc]
    have e1 : (pre ++ (frameF 68 (bodyF b).1 ++ (frs (D.map fun b => (bodyF b).1) ++ rest)))[pre.length]? = some 68 := by
      rw [List.getElem?_append_right (Nat.le_refl _), Nat.sub_self]
      rfl
    have e2 : (pre ++ (frameF 68 (bodyF b).1 ++ (frs (D.map fun b => (bodyF b).1) ++ rest))).drop pre.length = frameF 68 (bodyF b).1 ++ (frs (D.map fun b => (bodyF b).1) ++ rest) := List.drop_left' rfl
    have e3 := blks_back D k (pre ++ frameF 68 (bodyF b).1) rest (by simpa using h) (fun x hx => hD x (by simp [hx])) hr
    rw [List.append_assoc, List.length_append] at e3
    rw [e0]
    unfold blocksF
    rw [if_pos e1, e2, frame_back b2 b3 b4, framN_frame b3]
    rcases b with _ | ⟨x, l⟩
    · exact absurd rfl b1
    · simp only
      rw [e3]
      simp only [Option.map_some, Option.some.injEq, Prod.mk.injEq]
      refine ⟨rfl, ?_⟩
      rw [List.map_cons, frs_cons, List.length_append, Nat.add_assoc]
theorem allB_blkL : ∀ (D : List (List En)) (p : Nat), allB (blkL p D) = D.flatten
  | [], _ => rfl
  | b :: D, p => by
    have := allB_blkL D (p + (frameF 68 (bodyF b).1).length)
    unfold allB at this ⊢
    unfold blkL
    rw [List.flatMap_cons, this, List.flatten_cons]
theorem step_ne (bb : Int) : ∀ (l : List En) (p : List (List En) × List En), (∀ b ∈ p.1, b ≠ []) → (p.2 ≠ [] ∨ l ≠ []) → ∀ b ∈ (l.foldl (stepP bb) p).1 ++ [(l.foldl (stepP bb) p).2], b ≠ []
  | [], p, h1, h2, b, hb => by
    rcases List.mem_append.1 hb with hb | hb
    · exact h1 b hb
    · rw [List.mem_singleton.1 hb]
      exact h2.elim id (fun h => absurd rfl h)
  | e :: r, p, h1, h2, b, hb => by
    rw [List.foldl_cons] at hb
    refine step_ne bb r (stepP bb p e) ?_ ?_ b hb
    · intro c hc
      unfold stepP at hc
      split at hc
      · rename_i h3
        rcases List.mem_append.1 hc with hc | hc
        · exact h1 c hc
        · rw [List.mem_singleton.1 hc]; exact h3.1
      · exact h1 c hc
    · left
      unfold stepP
      split <;> simp
theorem blks_ne {l : List En} (bb : Int) (h : l ≠ []) : ∀ b ∈ blksF l bb, b ≠ [] := step_ne bb l ([], []) (fun b hb => by cases hb) (.inr h)
theorem done_ge : ∀ (D : List (List En)), D.length ≤ (doneF D).1.length := by
  intro D
  rw [frs_done]
  induction D with
  | nil => simp
  | cons b D ih =>
    rw [List.map_cons, frs_cons, List.length_append, frameF_length, List.length_cons]
    omega
/-- a table is read back: its blocks, and where the filter's frame stands -/
theorem open_back {l : List En} {bb pk : Int} (h : codeF l bb pk = 0) (hR : Rng (tabF l bb pk)) : openF (tabF l bb pk) = some (blkL 0 (blksF l bb), (doneF (blksF l bb)).1.length) := by
  have hT := tab_shape h
  obtain ⟨⟨q1, q2, q3, q4⟩, ⟨l1, l2⟩, hc, -, hlen⟩ := code_facts h
  rw [← tab_eq h] at hlen
  obtain ⟨rB, -, -, -⟩ := hT.rng hR
  have hm := chk_may [] l hc
  have hfl : (blksF l bb).flatten = l := part_flat bb l
  have hne : l ≠ [] := fun e => by rw [e] at l1; simp at l1
  have hB : blocksF (tabF l bb pk).length (tabF l bb pk) 0 = some (blkL 0 (blksF l bb), (doneF (blksF l bb)).1.length) := by
    have h1 := blks_back (blksF l bb) (tabF l bb pk).length [] (frameF 70 (Bloom.makeF (keysF l) pk.toNat) ++ (frameF 73 (idxF (blksF l bb)) ++ (footT l (blksF l bb) bb.toNat pk.toNat ++ le4 (sumF (footT l (blksF l bb) bb.toNat pk.toNat))))) ?_ (fun b hb => ⟨blks_ne bb hne b hb, fun e he => hm e (by rw [← hfl]; exact List.mem_flatten.2 ⟨b, hb, he⟩), (rB _ (List.mem_map.2 ⟨b, hb, rfl⟩)).1, (rB _ (List.mem_map.2 ⟨b, hb, rfl⟩)).2⟩) (show some (70 : Int) ≠ some 68 from by decide)
    · rw [List.nil_append, ← hT.eq, List.length_nil, Nat.zero_add, ← frs_done] at h1
      exact h1
    · have h2 := congrArg List.length hT.eq
      rw [List.length_append, ← frs_done] at h2
      have h3 := done_ge (blksF l bb)
      omega
  have hT40 : (tabF l bb pk).drop ((tabF l bb pk).length - 40) = footT l (blksF l bb) bb.toNat pk.toNat ++ le4 (sumF (footT l (blksF l bb) bb.toNat pk.toNat)) := by
    have h2 := hT.eq
    rw [← List.append_assoc, ← List.append_assoc] at h2
    have h3 := congrArg List.length h2
    rw [List.length_append, hT.ht] at h3
    generalize frs ((blksF l bb).map fun b => (bodyF b).1) ++ frameF 70 (Bloom.makeF (keysF l) pk.toNat) ++ frameF 73 (idxF (blksF l bb)) = X at h2 h3
    rw [h3, Nat.add_sub_cancel]
    rw [h2]
    exact List.drop_left' rfl
  have hbb : lowF ((((tabF l bb pk).drop ((tabF l bb pk).length - 40)).drop 24).take 4) = bb := by
    rw [hT40]
    unfold footT
    simp only [List.append_assoc]
    rw [show 24 = 8 + (8 + 8) from rfl, ← List.drop_drop, ← List.drop_drop, List.drop_left' (hiB_len _ 8), List.drop_left' (hiB_len _ 8), List.drop_left' (hiB_len _ 8), List.take_left' (hiB_len _ 4), lowF_hiB, Nat.mod_eq_of_lt (by omega)]
    omega
  have hpk : lowF ((((tabF l bb pk).drop ((tabF l bb pk).length - 40)).drop 28).take 4) = pk := by
    rw [hT40]
    unfold footT
    simp only [List.append_assoc]
    rw [show 28 = 8 + (8 + (8 + 4)) from rfl, ← List.drop_drop, ← List.drop_drop, ← List.drop_drop, List.drop_left' (hiB_len _ 8), List.drop_left' (hiB_len _ 8), List.drop_left' (hiB_len _ 8), List.drop_left' (hiB_len _ 4), List.take_left' (hiB_len _ 4), lowF_hiB, Nat.mod_eq_of_lt (by omega)]
    omega
  have h40 : 40 ≤ (tabF l bb pk).length := by
    have h3 := congrArg List.length hT.eq
    simp only [List.length_append] at h3
    have := hT.ht
    simp only [List.length_append] at this
    omega
  unfold openF
  rw [if_neg (by omega), hB]
  simp only
  rw [hbb, hpk, allB_blkL, hfl, if_pos ⟨h, rfl⟩]
end Ss
end Go.Proofs.Ytmojbamloanleaa
namespace Go.Proofs.Ytmojbamloanleaa
open Go.RowKit
namespace Mt
theorem cmpB_same : ∀ l : List Int, cmpB l l = 0
  | [] => rfl
  | a :: l => by simp only [cmpB]; rw [if_neg (by omega), if_neg (by omega)]; exact cmpB_same l
theorem cmpB_zero : ∀ {l m : List Int}, cmpB l m = 0 → l = m
  | [], [], _ => rfl
  | [], _ :: _, h => by simp [cmpB] at h
  | _ :: _, [], h => by simp [cmpB] at h
  | a :: x, b :: y, h => by
    simp only [cmpB] at h
    split at h
    · omega
    · split at h
      · omega
      · rw [show a = b by omega, cmpB_zero h]
theorem cmpB_trans : ∀ {l m k : List Int}, cmpB l m ≤ 0 → cmpB m k ≤ 0 → cmpB l k ≤ 0
  | [], _, [], _, _ => by simp [cmpB]
  | [], _, _ :: _, _, _ => by simp [cmpB]
  | _ :: _, [], _, h, _ => by simp [cmpB] at h
  | _ :: _, _ :: _, [], _, h => by simp [cmpB] at h
  | a :: x, b :: y, c :: z, h1, h2 => by
    simp only [cmpB] at h1 h2 ⊢
    split
    · omega
    · split at h1
      · split at h2
        · omega
        · split at h2
          · omega
          · omega
      · split at h1
        · omega
        · split at h2
          · omega
          · split at h2
            · omega
            · rw [if_neg (by omega)]
              exact cmpB_trans h1 h2
theorem cmpB_ltrans {l m k : List Int} (h1 : cmpB l m < 0) (h2 : cmpB m k < 0) : cmpB l k < 0 := by
  have h := cmpB_trans (Int.le_of_lt h1) (Int.le_of_lt h2)
  rcases Int.lt_or_eq_of_le h with h | h
  · exact h
  · have := cmpB_zero h
    subst this
    have := cmpB_swap l m
    omega
theorem cmpE_lt {a b : En} : cmpE a b < 0 ↔ cmpB a.1 b.1 < 0 ∨ (a.1 = b.1 ∧ b.2.1 < a.2.1) := by
  unfold cmpE
  by_cases h : cmpB a.1 b.1 = 0
  · rw [if_neg (by simp [h])]
    have e := cmpB_zero h
    constructor
    · intro q
      refine .inr ⟨e, ?_⟩
      split at q
      · assumption
      · split at q <;> omega
    · rintro (q | ⟨-, q⟩)
      · omega
      · rw [if_pos q]; omega
  · rw [if_pos h]
    constructor
    · exact .inl
    · rintro (q | ⟨q, -⟩)
      · exact q
      · rw [q] at h; exact absurd (cmpB_same _) h
theorem cmpE_zero {a b : En} : cmpE a b = 0 ↔ a.1 = b.1 ∧ a.2.1 = b.2.1 := by
  unfold cmpE
  by_cases h : cmpB a.1 b.1 = 0
  · rw [if_neg (by simp [h])]
    have e := cmpB_zero h
    constructor
    · intro q
      refine ⟨e, ?_⟩
      split at q
      · omega
      · split at q <;> omega
    · rintro ⟨-, q⟩
      rw [if_neg (by omega), if_neg (by omega)]
  · rw [if_pos h]
    constructor
    · intro q; exact absurd q h
    · rintro ⟨q, -⟩
      rw [q] at h; exact absurd (cmpB_same _) h
theorem cmpE_swap (a b : En) : cmpE b a = - cmpE a b := by
  have h1 := cmpE_lt (a := a) (b := b)
  unfold cmpE
  rw [cmpB_swap a.1 b.1]
  by_cases h : cmpB a.1 b.1 = 0
  · simp only [h, Int.neg_zero, ne_eq, not_true, if_false]
    split
    · rw [if_neg (by omega)]
    · split <;> rfl
  · rw [if_pos (by omega), if_pos h]
theorem cmpE_trans {a b c : En} (h1 : cmpE a b < 0) (h2 : cmpE b c < 0) : cmpE a c < 0 := by
  rw [cmpE_lt] at *
  rcases h1 with h1 | ⟨h1, h1'⟩ <;> rcases h2 with h2 | ⟨h2, h2'⟩
  · exact .inl (cmpB_ltrans h1 h2)
  · exact .inl (by rw [← h2]; exact h1)
  · exact .inl (by rw [h1]; exact h2)
  · exact .inr ⟨h1.trans h2, by omega⟩
end Mt
namespace Bloom
theorem wrap_u8 (n : Nat) (h : n < 256) : IntKind.u8.wrap (n : Int) = n := by simp [IntKind.wrap, IntKind.bits, IntKind.signed]; omega
theorem and_ne {x c : Int} : bits .and .u8 x c ≠ 0 ↔ (BitVec.ofInt 8 x &&& BitVec.ofInt 8 c) ≠ 0#8 := by
  unfold bits
  simp only
  have hk : IntKind.u8.bits = 8 := rfl
  rw [hk, wrap_u8 _ (BitVec.isLt _)]
  rw [Ne, Ne, ← BitVec.toNat_inj]
  simp
theorem ofInt_or (x z : Int) : BitVec.ofInt 8 (bits .or .u8 x z) = BitVec.ofInt 8 x ||| BitVec.ofInt 8 z := by
  unfold bits
  simp only
  have hk : IntKind.u8.bits = 8 := rfl
  rw [hk, wrap_u8 _ (BitVec.isLt _)]
  generalize BitVec.ofInt 8 x ||| BitVec.ofInt 8 z = a
  simp
theorem or_ne {a b c : BitVec 8} (h : a &&& c ≠ 0#8) : (a ||| b) &&& c ≠ 0#8 := by
  intro h2
  apply h
  have : (a ||| b) &&& c = (a &&& c) ||| (b &&& c) := by
    ext i; simp [Bool.and_or_distrib_right]
  rw [this] at h2
  exact (BitVec.or_eq_zero_iff.1 h2).1
theorem or_ne' {a c : BitVec 8} (h : c ≠ 0#8) : (a ||| c) &&& c ≠ 0#8 := by
  have : (a ||| c) &&& c = c := by ext i hi; simp only [BitVec.getElem_and, BitVec.getElem_or]; cases a[i] <;> cases c[i] <;> rfl
  rw [this]; exact h
/-- what is set in x is set in y -/
def Sub8 (x y : Int) : Prop := ∀ c, bits .and .u8 x c ≠ 0 → bits .and .u8 y c ≠ 0
theorem sub_or (x z : Int) : Sub8 x (bits .or .u8 x z) := fun c h => by
  rw [and_ne] at h ⊢
  rw [ofInt_or]
  exact or_ne h
def SubL (F G : List Int) : Prop := G.length = F.length ∧ (∀ i, Sub8 (F.getD i 0) (G.getD i 0)) ∧ G.getD 0 0 = F.getD 0 0
theorem SubL.refl (F : List Int) : SubL F F := ⟨rfl, fun _ _ h => h, rfl⟩
theorem SubL.trans {F G H : List Int} (h : SubL F G) (k : SubL G H) : SubL F H := ⟨k.1.trans h.1, fun i c q => k.2.1 i c (h.2.1 i c q), k.2.2.trans h.2.2⟩
theorem SubL.set {F : List Int} {i : Nat} (z : Int) (h0 : 0 < i) : SubL F (F.set i (bits .or .u8 (F.getD i 0) z)) := by
  refine ⟨by simp, fun j c h => ?_, ?_⟩
  · by_cases e : i = j
    · subst e
      rcases Nat.lt_or_ge i F.length with hl | hl
      · have : (F.set i (bits .or .u8 (F.getD i 0) z)).getD i 0 = bits .or .u8 (F.getD i 0) z := by simp [List.getD, hl]
        rw [this]; exact sub_or _ _ c h
      · have : (F.set i (bits .or .u8 (F.getD i 0) z)).getD i 0 = F.getD i 0 := by simp [List.getD, hl]
        rw [this]; exact h
    · have : (F.set i (bits .or .u8 (F.getD i 0) z)).getD j 0 = F.getD j 0 := by simp [List.getD, List.getElem?_set_ne e]
      rw [this]; exact h
  · simp [List.getD, List.getElem?_set_ne (show i ≠ 0 by omega)]
theorem isSet_sub {F G : List Int} (h : SubL F G) {n : Int} (k : isSet F n = true) : isSet G n = true := by
  unfold isSet at k ⊢
  rw [bne_iff_ne] at k ⊢
  exact h.2.1 _ _ k
theorem setBit_sub (f : List Int) (n : Int) : SubL f (setBit f n) := SubL.set _ (by unfold atF; omega)
theorem setAll_sub (f l : List Int) (m : Int) : ∀ k, SubL f (setAll f l m k)
  | 0 => SubL.refl f
  | k + 1 => (setAll_sub f l m k).trans (setBit_sub _ _)
theorem fill_sub (m : Int) (p : Nat) : ∀ (ls : List (List Int)) (f : List Int), SubL f (fill ls m p f)
  | [], f => SubL.refl f
  | l :: ls, f => (setAll_sub f l m p).trans (fill_sub m p ls _)
theorem bitF_ne (n : Int) : BitVec.ofInt 8 (bitF n) ≠ 0#8 := by
  unfold bitF
  have h : (n % 8).toNat < 8 := by omega
  generalize (n % 8).toNat = r at h
  match r, h with
  | 0, _ => decide
  | 1, _ => decide
  | 2, _ => decide
  | 3, _ => decide
  | 4, _ => decide
  | 5, _ => decide
  | 6, _ => decide
  | 7, _ => decide
theorem setBit_has {f : List Int} {n : Int} (h : atF n < f.length) : isSet (setBit f n) n = true := by
  unfold isSet setBit
  rw [bne_iff_ne, and_ne]
  have : (f.set (atF n) (bits .or .u8 (f.getD (atF n) 0) (bitF n))).getD (atF n) 0 = bits .or .u8 (f.getD (atF n) 0) (bitF n) := by simp [List.getD, h]
  rw [this, ofInt_or]
  exact or_ne' (bitF_ne n)
theorem setAll_has {f l : List Int} {m : Int} (hat : ∀ i, atF (num l m i) < f.length) : ∀ (k i : Nat), i < k → isSet (setAll f l m k) (num l m i) = true
  | k + 1, i, h => by
    rcases Nat.lt_or_ge i k with hi | hi
    · exact isSet_sub (setBit_sub _ _) (setAll_has hat k i hi)
    · have : i = k := by omega
      subst this
      exact setBit_has (by rw [setAll_len]; exact hat i)
theorem fill_has {m : Int} {p : Nat} {l : List Int} : ∀ (ls : List (List Int)) (f : List Int), (∀ i, atF (num l m i) < f.length) → l ∈ ls → ∀ i, i < p → isSet (fill ls m p f) (num l m i) = true
  | x :: ls, f, hat, h, i, hi => by
    show isSet (fill ls m p (setAll f x m p)) _ = true
    cases List.mem_cons.1 h with
    | inl e => subst e; exact isSet_sub (fill_sub m p ls _) (setAll_has hat p i hi)
    | inr e => exact fill_has ls _ (fun j => by rw [setAll_len]; exact hat j) e i hi
theorem allB_true {t : Nat → Bool} : ∀ n, (∀ i, i < n → t i = true) → allB t n = true
  | 0, _ => rfl
  | n + 1, h => by simp [allB, allB_true n (fun i hi => h i (by omega)), h n (by omega)]
theorem makeF_len {ls : List (List Int)} {q : Int} : (makeF ls q).length = 1 + 8 * (wordsF ls.length q).toNat := by
  unfold makeF; rw [fill_len]; simp
/-- a filter with more bits set says of each key that it may be there -/
theorem holds_law {ls : List (List Int)} {q : Int} (hok : (1 ≤ q ∧ q ≤ 30) ∧ True) {G : List Int} (h : SubL (makeF ls q) G) {l : List Int} (hl : l ∈ ls) : mayF G l = true := by
  have hlen : G.length = 1 + 8 * (wordsF ls.length q).toNat := by rw [h.1, makeF_len]
  have hW : 1 ≤ wordsF ls.length q := by unfold wordsF; omega
  have hp : 1 ≤ probesF q ∧ probesF q ≤ 20 := by obtain ⟨⟨k1, k2⟩, _⟩ := hok; unfold probesF; omega
  have h0 : G.getD 0 0 = probesF q := by
    rw [h.2.2]
    unfold makeF
    rw [(fill_sub _ _ ls _).2.2]
    rw [List.getD_eq_getElem?_getD, List.getElem?_set_self (by simp; omega)]
    rfl
  have hm : ((G.length : Int) - 1) * 8 = wordsF ls.length q * 64 := by rw [hlen]; push_cast; omega
  unfold mayF
  split
  · rfl
  · rw [h0, hm]
    refine allB_true _ fun i hi => isSet_sub h ?_
    unfold makeF
    refine fill_has ls _ (fun j => ?_) hl i hi
    have hn := num_rng l (m := wordsF ls.length q * 64) (by omega) j
    unfold atF
    simp only [List.length_set, List.length_replicate]
    omega
end Bloom
end Go.Proofs.Ytmojbamloanleaa
namespace Go.Proofs.Ytmojbamloanleaa
open Go.RowKit
namespace Ss
open Mt Codec
abbrev AscE (l : List En) : Prop := l.Pairwise fun a b => cmpE a b < 0
theorem asc_chk : ∀ (l p : List En), AscE p → chkF p l = 0 → AscE (p ++ l)
  | [], p, hp, _ => by simpa using hp
  | x :: r, p, hp, h => by
    unfold chkF at h
    by_cases h1 : chkE p x ≠ 0
    · rw [if_pos h1] at h; exact absurd h h1
    rw [if_neg h1] at h
    have h2 : chkE p x = 0 := by simpa using h1
    have h3 : AscE (p ++ [x]) := by
      rcases nil_or_snoc p with rfl | ⟨p', y, rfl⟩
      · simp [AscE]
      · have hy : cmpE y x < 0 := by
          unfold chkE at h2
          simp only at h2
          by_cases hm : mayB x = false
          · rw [if_pos hm] at h2; cases h2
          rw [if_neg hm] at h2
          simp only [List.getLast?_append, List.getLast?_singleton, Option.some_or] at h2
          by_cases h4 : 0 ≤ cmpE y x
          · rw [if_pos h4] at h2; cases h2
          · omega
        unfold AscE
        rw [List.pairwise_append]
        refine ⟨hp, List.pairwise_singleton _ _, fun a ha b hb => ?_⟩
        rw [List.mem_singleton] at hb
        subst hb
        rcases List.mem_append.1 ha with ha | ha
        · exact cmpE_trans ((List.pairwise_append.1 hp).2.2 a ha y (List.mem_singleton.2 rfl)) hy
        · rw [List.mem_singleton] at ha; subst ha; exact hy
    have h4 := asc_chk r (p ++ [x]) h3 h
    rwa [List.append_assoc] at h4
theorem cmpE_key {a b : En} (h : cmpE a b < 0) : cmpB a.1 b.1 ≤ 0 := by
  rcases cmpE_lt.1 h with h | ⟨h, -⟩
  · omega
  · rw [h, cmpB_same]; omega
theorem cmpE_nohit {a b : En} (h : cmpE a b < 0) : ¬ (a.1 = b.1 ∧ a.2.1 ≤ b.2.1) := by
  rintro ⟨h1, h2⟩
  rcases cmpE_lt.1 h with h | ⟨-, h⟩
  · rw [h1, cmpB_same] at h; omega
  · omega
theorem seek_skip (key : List Int) (seq : Int) (p : Blk) (C : List Blk) (x : En) (hp : hitF key seq p.2.2 = some x) : ∀ A : List Blk, (∀ q ∈ A, hitF key seq q.2.2 = none ∧ keyZ q.2.2 = key) → seekF key seq (A ++ p :: C) = (some x, A.length + 1)
  | [], _ => by
    rw [List.nil_append]
    unfold seekF
    rw [hp]
    rfl
  | q :: A, h => by
    rw [List.cons_append]
    unfold seekF
    rw [(h q (by simp)).1]
    simp only
    rw [if_pos (h q (by simp)).2, seek_skip key seq p C x hp A (fun r hr => h r (by simp [hr]))]
    rfl
theorem hit_none {key : List Int} {seq : Int} {l : List En} (h : ∀ e ∈ l, ¬ (e.1 = key ∧ e.2.1 ≤ seq)) : hitF key seq l = none := by
  unfold hitF
  rw [List.find?_eq_none]
  intro e he
  have := h e he
  simpa using this
theorem hit_at {x : En} {P S : List En} (h : ∀ e ∈ P, ¬ (e.1 = x.1 ∧ e.2.1 ≤ x.2.1)) : hitF x.1 x.2.1 (P ++ x :: S) = some x := by
  unfold hitF
  rw [List.find?_append]
  have h1 : P.find? (fun e => decide (e.1 = x.1) && decide (e.2.1 ≤ x.2.1)) = none := by
    have := hit_none h
    unfold hitF at this
    exact this
  rw [h1, List.find?_cons]
  simp
theorem keyZ_mem {l : List En} (h : l ≠ []) : ∃ e ∈ l, keyZ l = e.1 := by
  rcases nil_or_snoc l with rfl | ⟨l', y, rfl⟩
  · exact absurd rfl h
  · exact ⟨y, by simp, by unfold keyZ; simp⟩
theorem keyZ_app {P S : List En} {x : En} : (∃ e ∈ x :: S, keyZ (P ++ x :: S) = e.1) := by
  obtain ⟨e, he, h⟩ := keyZ_mem (l := x :: S) (by simp)
  refine ⟨e, he, ?_⟩
  rw [← h]
  unfold keyZ
  rw [List.getLast?_append]
  rcases nil_or_snoc (x :: S) with h1 | ⟨l', y, h1⟩
  · cases h1
  · rw [h1]; simp
theorem firstK_eq : ∀ (bs : List Blk), (∀ p ∈ bs, p.2.2 ≠ []) → firstK bs = keyA (allB bs)
  | [], _ => rfl
  | p :: bs, h => by
    have h1 := h p (by simp)
    unfold firstK keyA allB
    rw [List.head?_cons, List.flatMap_cons]
    rcases hp : p.2.2 with _ | ⟨x, l⟩
    · exact absurd hp h1
    · simp only [hp, List.cons_append, List.head?_cons]
theorem lastK_eq (bs : List Blk) (h : ∀ p ∈ bs, p.2.2 ≠ []) (hn : bs ≠ []) : lastK bs = keyZ (allB bs) := by
  rcases List.eq_nil_or_concat bs with rfl | ⟨b', p, rfl⟩
  · exact absurd rfl hn
  · rw [List.concat_eq_append] at h ⊢
    have h1 := h p (by simp)
    unfold lastK allB
    rw [List.getLast?_append, List.flatMap_append]
    simp only [List.getLast?_singleton, Option.some_or, List.flatMap_cons, List.flatMap_nil, List.append_nil]
    rcases nil_or_snoc p.2.2 with h2 | ⟨l', y, h2⟩
    · exact absurd h2 h1
    · rw [h2]
      unfold keyZ
      simp
theorem key_mem : ∀ (l : List En) (ks : List (List Int)), (∀ k ∈ ks, k ∈ l.foldl keyStep ks) ∧ ∀ e ∈ l, e.1 ∈ l.foldl keyStep ks
  | [], ks => ⟨fun k h => h, fun e h => by cases h⟩
  | x :: l, ks => by
    obtain ⟨h1, h2⟩ := key_mem l (keyStep ks x)
    have h3 : x.1 ∈ keyStep ks x := by
      unfold keyStep
      split
      · rename_i h; exact List.mem_of_getLast? h
      · simp
    have h4 : ∀ k ∈ ks, k ∈ keyStep ks x := fun k hk => by
      unfold keyStep
      split
      · exact hk
      · simp [hk]
    rw [List.foldl_cons]
    refine ⟨fun k hk => h1 k (h4 k hk), fun e he => ?_⟩
    rcases List.mem_cons.1 he with rfl | he
    · exact h1 _ h3
    · exact h2 e he
theorem blks_asc {bs : List Blk} (h : AscE (allB bs)) : bs.Pairwise fun p q => ∀ x ∈ p.2.2, ∀ y ∈ q.2.2, cmpE x y < 0 := by
  unfold allB AscE at h
  exact (List.pairwise_flatMap.1 h).2
theorem ge_mono {bs : List Blk} (h : AscE (allB bs)) (hn : ∀ p ∈ bs, p.2.2 ≠ []) (key : List Int) : ∀ i j, 0 ≤ i → i ≤ j → j < bs.length → geF bs key i = true → geF bs key j = true := by
  intro i j _ hij hj hi
  rcases Nat.eq_or_lt_of_le hij with rfl | hlt
  · exact hi
  have e1 : bs[i]? = some (bs[i]'(by omega)) := List.getElem?_eq_getElem (by omega)
  have e2 : bs[j]? = some (bs[j]'hj) := List.getElem?_eq_getElem hj
  unfold geF at hi ⊢
  rw [e1] at hi
  rw [e2]
  simp only [decide_eq_true_eq] at hi ⊢
  have h1 := List.pairwise_iff_getElem.1 (blks_asc h) i j (by omega) hj hlt
  obtain ⟨x, hx, ex⟩ := keyZ_mem (hn _ (List.getElem_mem (show i < bs.length by omega)))
  obtain ⟨y, hy, ey⟩ := keyZ_mem (hn _ (List.getElem_mem hj))
  have h2 := cmpE_key (h1 x hx y hy)
  rw [ex] at hi
  rw [ey]
  by_cases h3 : 0 ≤ cmpB y.1 key
  · exact h3
  · have h4 := cmpB_trans h2 (show cmpB y.1 key ≤ 0 by omega)
    have h5 : cmpB x.1 key = 0 := by omega
    have h6 := cmpB_zero h5
    rw [h6] at h2
    have h7 := cmpB_swap y.1 key
    omega
/-- what was built is got -/
theorem get_at {bs : List Blk} {fil : List Int} {x : En} (h : AscE (allB bs)) (hn : ∀ p ∈ bs, p.2.2 ≠ []) (hx : x ∈ allB bs) (hm : Bloom.mayF fil x.1 = true) : ∃ n, getF bs fil x.1 x.2.1 = (some x, n) ∧ n ≤ bs.length := by
  unfold allB at hx
  obtain ⟨p, hp, hxp⟩ := List.mem_flatMap.1 hx
  obtain ⟨A, C, rfl⟩ := List.append_of_mem hp
  obtain ⟨P, S, hps⟩ := List.append_of_mem hxp
  have hE : allB (A ++ p :: C) = allB A ++ (P ++ x :: (S ++ allB C)) := by
    unfold allB
    rw [List.flatMap_append, List.flatMap_cons, hps]
    simp
  have hne : A ++ p :: C ≠ [] := by simp
  have hlt : ∀ e ∈ allB A ++ P, cmpE e x < 0 := fun e he => by
    rw [hE, ← List.append_assoc] at h
    exact (List.pairwise_append.1 h).2.2 e he x (by simp)
  have hgt : ∀ e ∈ S ++ allB C, cmpE x e < 0 := fun e he => by
    rw [hE, ← List.append_assoc] at h
    exact (List.pairwise_cons.1 (List.pairwise_append.1 h).2.1).1 e he
  have hkz : 0 ≤ cmpB (keyZ p.2.2) x.1 := by
    rw [hps]
    obtain ⟨e, he, ek⟩ := keyZ_app (P := P) (S := S) (x := x)
    rw [ek]
    rcases List.mem_cons.1 he with rfl | he
    · rw [cmpB_same]; omega
    · have := cmpE_key (hgt e (List.mem_append_left _ he))
      have := cmpB_swap x.1 e.1
      omega
  have hf : ¬ cmpB x.1 (firstK (A ++ p :: C)) < 0 := by
    rw [firstK_eq _ hn, hE]
    rcases hA : allB A ++ P with _ | ⟨y, r⟩
    · have : keyA (allB A ++ (P ++ x :: (S ++ allB C))) = x.1 := by rw [← List.append_assoc, hA]; rfl
      rw [this, cmpB_same]; omega
    · have e1 : keyA (allB A ++ (P ++ x :: (S ++ allB C))) = y.1 := by rw [← List.append_assoc, hA]; rfl
      rw [e1]
      have := cmpE_key (hlt y (by rw [hA]; simp))
      have := cmpB_swap y.1 x.1
      omega
  have hl : ¬ 0 < cmpB x.1 (lastK (A ++ p :: C)) := by
    rw [lastK_eq _ hn hne, hE, ← List.append_assoc]
    obtain ⟨e, he, ek⟩ := keyZ_app (P := allB A ++ P) (S := S ++ allB C) (x := x)
    rw [ek]
    rcases List.mem_cons.1 he with rfl | he
    · rw [cmpB_same]; omega
    · have := cmpE_key (hgt e he)
      omega
  obtain ⟨s1, s2⟩ := srchF_least (geF (A ++ p :: C) x.1) (A ++ p :: C).length 0 (A ++ p :: C).length (Nat.zero_le _) (by omega) (ge_mono h hn x.1)
  have hfi : findF (A ++ p :: C) x.1 ≤ A.length := by
    rcases Nat.lt_or_ge A.length (findF (A ++ p :: C) x.1) with h1 | h1
    · have h2 := s1 A.length (Nat.zero_le _) h1
      unfold geF at h2
      rw [List.getElem?_append_right (Nat.le_refl _), Nat.sub_self, List.getElem?_cons_zero] at h2
      simp only [decide_eq_false_iff_not] at h2
      exact absurd hkz h2
    · exact h1
  refine ⟨(A.drop (findF (A ++ p :: C) x.1)).length + 1, ?_, by rw [List.length_drop, List.length_append, List.length_cons]; omega⟩
  unfold getF
  rw [if_neg (fun h => h.elim hf (fun h => h.elim hl (fun h => by rw [hm] at h; cases h))), List.drop_append_of_le_length hfi]
  refine seek_skip x.1 x.2.1 p C x (by rw [hps]; exact hit_at (fun e he => cmpE_nohit (hlt e (List.mem_append_right _ he)))) _ (fun q hq => ?_)
  have hqA := List.mem_of_mem_drop hq
  have hqE : ∀ e ∈ q.2.2, e ∈ allB A := fun e he => List.mem_flatMap.2 ⟨q, hqA, he⟩
  refine ⟨hit_none (fun e he => cmpE_nohit (hlt e (List.mem_append_left _ (hqE e he)))), ?_⟩
  obtain ⟨j, hj⟩ := List.mem_iff_getElem?.1 hq
  rw [List.getElem?_drop] at hj
  have hjl := (List.getElem?_eq_some_iff.1 hj).1
  have h2 := s2 (findF (A ++ p :: C) x.1 + j) (by unfold findF; omega) (by rw [List.length_append]; omega)
  unfold geF at h2
  rw [List.getElem?_append_left hjl, hj] at h2
  simp only [decide_eq_true_eq] at h2
  obtain ⟨e, he, ek⟩ := keyZ_mem (hn q (by simp [hqA]))
  rw [ek] at h2 ⊢
  have h3 := cmpE_key (hlt e (List.mem_append_left _ (hqE e he)))
  exact cmpB_zero (by omega)
end Ss
end Go.Proofs.Ytmojbamloanleaa
namespace Go.Proofs.Ytmojbamloanleaa
open Go.RowKit
namespace Ss
open Mt Codec
theorem cmpB_nil (l : List Int) : 0 ≤ cmpB l [] := by cases l <;> simp [cmpB]
theorem filt_nil (l : List En) : filtF [] l = l := by
  unfold filtF
  rw [List.filter_eq_self]
  intro e _
  simpa using cmpB_nil e.1
theorem yl_nil : ∀ (bs : List Blk) (n : Nat), (ylF [] n bs).map (·.1) = allB bs
  | [], _ => rfl
  | p :: bs, n => by
    have h := yl_nil bs (n + 1)
    unfold allB at h ⊢
    rw [show ylF [] n (p :: bs) = (filtF [] p.2.2).map (fun e => (e, n + 1)) ++ ylF [] (n + 1) bs from rfl]
    rw [filt_nil, List.map_append, List.map_map, List.flatMap_cons, h]
    congr 1
    exact List.map_id _
theorem find_nil (bs : List Blk) : findF bs [] = 0 := by
  have hg : ∀ i, i < bs.length → geF bs [] i = true := fun i hi => by
    unfold geF
    rw [List.getElem?_eq_getElem hi]
    simpa using cmpB_nil _
  obtain ⟨h1, -⟩ := srchF_least (geF bs []) bs.length 0 bs.length (Nat.zero_le _) (by omega) (fun i j _ _ hj _ => hg j hj)
  have h2 := (srchF_le (geF bs []) bs.length 0 bs.length (Nat.zero_le _)).2
  unfold findF
  rcases Nat.eq_zero_or_pos (srchF (geF bs []) bs.length 0 bs.length) with h | h
  · exact h
  · have := h1 0 (Nat.le_refl _) h
    rw [hg 0 (by omega)] at this
    cases this
theorem blkL_mem : ∀ (D : List (List En)) (n : Nat), ∀ p ∈ blkL n D, p.2.2 ∈ D
  | [], _, p, h => by cases h
  | b :: D, n, p, h => by
    unfold blkL at h
    rcases List.mem_cons.1 h with rfl | h
    · simp
    · exact List.mem_cons_of_mem _ (blkL_mem D _ p h)
theorem blkL_len : ∀ (D : List (List En)) (n : Nat), (blkL n D).length = D.length
  | [], _ => rfl
  | b :: D, n => by
    unfold blkL
    rw [List.length_cons, List.length_cons, blkL_len D]
theorem blkL_ok : ∀ (D : List (List En)) (pre rest : List Int), (∀ b ∈ D, (∀ e ∈ b, mayB e = true) ∧ (bodyF b).1.length ≤ 2097152 ∧ Rng (bodyF b).1) → ∀ p ∈ blkL pre.length D, BlkOk (pre ++ (frs (D.map fun b => (bodyF b).1) ++ rest)) p
  | [], pre, rest, _, p, h => by cases h
  | b :: D, pre, rest, hD, p, h => by
    obtain ⟨b2, b3, b4⟩ := hD b (by simp)
    have e0 : frs ((b :: D).map fun b => (bodyF b).1) ++ rest = frameF 68 (bodyF b).1 ++ (frs (D.map fun b => (bodyF b).1) ++ rest) := by
      rw [List.map_cons, frs_cons, List.append_assoc]
    unfold blkL at h
    rcases List.mem_cons.1 h with rfl | h
    · refine ⟨Nat.le_add_right _ _, ?_, ?_⟩
      · rw [e0, List.length_append, List.length_append]
        simp only
        omega
      · simp only
        rw [e0, List.drop_left' rfl, Nat.add_sub_cancel_left, List.take_left' rfl]
        have := frame_back b2 b3 b4 []
        rwa [List.append_nil] at this
    · have h1 := blkL_ok D (pre ++ frameF 68 (bodyF b).1) rest (fun x hx => hD x (by simp [hx])) p (by rw [List.length_append]; exact h)
      rw [e0]
      rw [List.append_assoc] at h1
      exact h1
/-- what is known of a table that was built -/
structure Built (l : List En) (bb pk : Int) (bs : List Blk) : Prop where
  all : allB bs = l
  asc : AscE (allB bs)
  ne : ∀ p ∈ bs, p.2.2 ≠ []
  ok : ∀ p ∈ bs, BlkOk (tabF l bb pk) p
  sm : ∀ p ∈ bs, p.2.2.length ≤ 65536 ∧ ∀ e ∈ p.2.2, mayB e = true
  len : 1 ≤ bs.length ∧ bs.length ≤ 65537
  may : ∀ e ∈ l, Bloom.mayF (takeFrameF ((tabF l bb pk).drop (doneF (blksF l bb)).1.length)).2.1 e.1 = true
  fil : (takeFrameF ((tabF l bb pk).drop (doneF (blksF l bb)).1.length)).2.1.length ≤ 2097152
theorem built {l : List En} {bb pk : Int} (h : codeF l bb pk = 0) (hR : Rng (tabF l bb pk)) : Built l bb pk (blkL 0 (blksF l bb)) := by
  have hT := tab_shape h
  obtain ⟨⟨q1, q2, q3, q4⟩, ⟨l1, l2⟩, hc, -, -⟩ := code_facts h
  obtain ⟨rB, -, -, -⟩ := hT.rng hR
  have hm := chk_may [] l hc
  have hfl : (blksF l bb).flatten = l := part_flat bb l
  have hne : l ≠ [] := fun e => by rw [e] at l1; simp at l1
  have hall : allB (blkL 0 (blksF l bb)) = l := by rw [allB_blkL, hfl]
  have hfil : (takeFrameF ((tabF l bb pk).drop (doneF (blksF l bb)).1.length)).2.1 = Bloom.makeF (keysF l) pk.toNat := by
    rw [hT.eq, frs_done, List.drop_left' rfl, takeFrameF_frame (by decide) _ _ hT.hf]
  have hmem : ∀ b ∈ blksF l bb, ∀ e ∈ b, e ∈ l := fun b hb e he => by rw [← hfl]; exact List.mem_flatten.2 ⟨b, hb, he⟩
  have hD : blksF l bb ≠ [] := by unfold blksF; simp
  refine ⟨hall, by rw [hall]; have := asc_chk l [] List.Pairwise.nil hc; simpa using this, fun p hp => blks_ne bb hne _ (blkL_mem _ _ p hp), fun p hp => ?_, fun p hp => ⟨(tab_sm h _ (blkL_mem _ _ p hp)).1.2.2, fun e he => hm e (hmem _ (blkL_mem _ _ p hp) e he)⟩, ⟨?_, by rw [blkL_len]; exact tab_nb h⟩, fun e he => ?_, by rw [hfil]; exact hT.hf⟩
  · have h1 := blkL_ok (blksF l bb) [] (frameF 70 (Bloom.makeF (keysF l) pk.toNat) ++ (frameF 73 (idxF (blksF l bb)) ++ (footT l (blksF l bb) bb.toNat pk.toNat ++ le4 (sumF (footT l (blksF l bb) bb.toNat pk.toNat))))) (fun b hb => ⟨fun e he => hm e (hmem b hb e he), (rB _ (List.mem_map.2 ⟨b, hb, rfl⟩)).1, (rB _ (List.mem_map.2 ⟨b, hb, rfl⟩)).2⟩) p (by simpa using hp)
    rw [List.nil_append, ← hT.eq] at h1
    exact h1
  · rw [blkL_len]
    exact List.length_pos_iff.2 hD
  · rw [hfil]
    exact Bloom.holds_law ⟨⟨by omega, by omega⟩, trivial⟩ (Bloom.SubL.refl _) (by unfold keysF; exact (key_mem l []).2 e he)
theorem keyA_le {l : List En} (h : ∀ e ∈ l, mayB e = true) : (keyA l).length ≤ 256 := by
  rcases l with _ | ⟨x, l⟩
  · simp [keyA]
  · exact (may_facts (h x (by simp))).2.1
theorem keyZ_le {l : List En} (h : ∀ e ∈ l, mayB e = true) : (keyZ l).length ≤ 256 := by
  rcases nil_or_snoc l with rfl | ⟨l', y, rfl⟩
  · simp [keyZ]
  · have := (may_facts (h y (by simp))).2.1
    unfold keyZ
    simpa using this
end Ss
end Go.Proofs.Ytmojbamloanleaa
