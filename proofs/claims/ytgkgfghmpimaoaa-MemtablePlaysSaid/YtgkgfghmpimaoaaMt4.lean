/- memtable: the table in memory; how a place is found (plain). -/
import Derived.Test.YtgkgfghmpimaoaaMt3
set_option linter.unusedVariables false
set_option linter.unusedSimpArgs false
namespace Go.Proofs.Ytgkgfghmpimaoaa
open Go.RowKit
namespace Mt
/-- a node: its block, the block of its row of pointers, its key and value, the entry, the height -/
structure Nd where
  b : Nat
  r : Nat
  kv : Value
  vv : Value
  x : En
  h : Nat
/-- the next one on a level -/
def nxt (ns : List Nd) (j : Nat) : Option Addr := (ns.find? fun n => decide (j < n.h)).map fun n => ⟨n.b, 0, none⟩
structure NdI (S : Nat → Prop) (w : World) (n : Nd) : Prop where
  obj : w.heap[n.b]? = some (.cells #[n.kv, .int .u64 n.x.2.1, .bool n.x.2.2.1, n.vv, .slice (some ⟨n.r, 0, none⟩) n.h n.h] 57 (0, 0))
  row : ∃ cur, w.heap[n.r]? = some (.cells cur 54 (0, 0)) ∧ cur.size = n.h
  k : OwnS w 0 5 n.kv n.x.1
  v : OwnS w 0 5 n.vv n.x.2.2.2
  sb : S n.b
  sr : S n.r
  sk : ∀ b, n.kv.ownBlock = some b → S b
  sv : ∀ b, n.vv.ownBlock = some b → S b
  u : U64 n.x.2.1
  hh : 1 ≤ n.h ∧ n.h ≤ 12
  sh : Short n.x
/-- the pointers of all nodes -/
def Ptrs (w : World) (ns : List Nd) : Prop := ∀ i n, ns[i]? = some n → ∀ j, j < n.h → w.cell? ⟨n.r, j, none⟩ = some (.pointer (nxt (ns.drop (i + 1)) j))
def sizeE (x : En) : Nat := x.1.length + x.2.2.2.length + 16
def bytesE (l : List En) : Nat := (l.map sizeE).sum
def Asc (l : List En) : Prop := l.Pairwise fun a b => cmpE a b < 0
structure TabI (S : Nat → Prop) (w : World) (tb : Nat) (hs : List Int) (hd : Nd) (L : List Nd) : Prop where
  obj : ∃ hv, w.heap[tb]? = some (.cells #[hv, .pointer (some ⟨hd.b, 0, none⟩), .int .i64 L.length, .int .i64 (bytesE (L.map (·.x)))] 59 (0, 0)) ∧ w.ownsRow 0 3 1 hv hs.length (hs.map (Value.int .i64)) ∧ ∀ b, hv.ownBlock = some b → S b
  hI : ∀ h ∈ hs, I64 h
  nds : ∀ n ∈ hd :: L, NdI S w n
  ptrs : Ptrs w (hd :: L)
  rne : (hd :: L).Pairwise fun a b => a.r ≠ b.r
  hh : hd.h = 12
  hx : hd.x = ([], 0, false, [])
  asc : Asc (L.map (·.x))
  may : ∀ n ∈ L, mayB n.x = true
  len : L.length ≤ 1000
  stb : S tb
  lt : ∀ b, S b → b < w.heap.size
theorem NdI.keep {S : Nat → Prop} {w w' : World} {n : Nd} (h : NdI S w n) (c : Chg (fun b => ¬ S b) w w') : NdI S w' n := by
  have hb := (Array.getElem?_eq_some_iff.1 h.obj).1
  obtain ⟨cur, h1, h2⟩ := h.row
  have hr := (Array.getElem?_eq_some_iff.1 h1).1
  exact ⟨(c.block _ hb (fun q => q h.sb)).trans h.obj, ⟨cur, (c.block _ hr (fun q => q h.sr)).trans h1, h2⟩, c.ownS h.k (fun b hb q => q (h.sk b hb)), c.ownS h.v (fun b hb q => q (h.sv b hb)), h.sb, h.sr, h.sk, h.sv, h.u, h.hh, h.sh⟩
theorem TabI.keep {S : Nat → Prop} {w w' : World} {tb : Nat} {hs : List Int} {hd : Nd} {L : List Nd} (h : TabI S w tb hs hd L) (c : Chg (fun b => ¬ S b) w w') : TabI S w' tb hs hd L := by
  obtain ⟨hv, h1, h2, h3⟩ := h.obj
  refine ⟨⟨hv, (c.block _ (Array.getElem?_eq_some_iff.1 h1).1 (fun q => q h.stb)).trans h1, c.own h2 (fun b hb q => q (h3 b hb)), h3⟩, h.hI, fun n hn => (h.nds n hn).keep c, fun i n hi j hj => ?_, h.rne, h.hh, h.hx, h.asc, h.may, h.len, h.stb, fun b hb => Nat.lt_of_lt_of_le (h.lt b hb) c.size⟩
  have hn := h.nds n (List.mem_of_getElem? hi)
  obtain ⟨cur, q1, q2⟩ := hn.row
  exact (c.cell (Array.getElem?_eq_some_iff.1 q1).1 (fun q => q hn.sr)).trans (h.ptrs i n hi j hj)
theorem TabI.below {S : Nat → Prop} {w w' : World} {tb : Nat} {hs : List Int} {hd : Nd} {L : List Nd} (h : TabI S w tb hs hd L) (c : Below w.heap.size w w') : TabI S w' tb hs hd L := h.keep (.of_ext c)
/-- a level, from a place on: how many nodes are looked at, and where the search stands behind it -/
def scanL (j pos : Nat) : List Nat → Nat → Nat → Nat × Nat
  | [], _, a => (0, a)
  | h :: t, k, a => if h ≤ j then scanL j pos t (k + 1) a else if pos ≤ k then (1, a) else ((scanL j pos t (k + 1) (k + 1)).1 + 1, (scanL j pos t (k + 1) (k + 1)).2)
/-- behind i levels -/
def lvl (hts : List Nat) (pos : Nat) : Nat → Nat × Nat
  | 0 => (0, 0)
  | i + 1 => ((lvl hts pos i).1 + (scanL (11 - i) pos (hts.drop (lvl hts pos i).2) (lvl hts pos i).2 (lvl hts pos i).2).1, (scanL (11 - i) pos (hts.drop (lvl hts pos i).2) (lvl hts pos i).2 (lvl hts pos i).2).2)
theorem scan_next (j : Nat) : ∀ (M : List Nd) (k a : Nat), (nxt M j = none ∧ ∀ pos, scanL j pos (M.map (·.h)) k a = (0, a)) ∨
    ∃ i n, M[i]? = some n ∧ j < n.h ∧ nxt M j = some ⟨n.b, 0, none⟩ ∧ ∀ pos, scanL j pos (M.map (·.h)) k a = if pos ≤ k + i then (1, a) else ((scanL j pos ((M.drop (i + 1)).map (·.h)) (k + i + 1) (k + i + 1)).1 + 1, (scanL j pos ((M.drop (i + 1)).map (·.h)) (k + i + 1) (k + i + 1)).2)
  | [], k, a => .inl ⟨rfl, fun _ => rfl⟩
  | m :: M, k, a => by
    by_cases h : j < m.h
    · refine .inr ⟨0, m, rfl, h, by simp [nxt, h], fun pos => ?_⟩
      simp only [List.map_cons, scanL, if_neg (Nat.not_le.2 h), Nat.add_zero, List.drop_succ_cons, List.drop_zero, Nat.zero_add]
    · have e : ∀ pos, scanL j pos ((m :: M).map (·.h)) k a = scanL j pos (M.map (·.h)) (k + 1) a := fun pos => by
        simp only [List.map_cons, scanL, if_pos (Nat.not_lt.1 h)]
      have e2 : nxt (m :: M) j = nxt M j := by simp [nxt, h]
      rcases scan_next j M (k + 1) a with ⟨h1, h2⟩ | ⟨i, n, h1, h2, h3, h4⟩
      · exact .inl ⟨e2.trans h1, fun pos => (e pos).trans (h2 pos)⟩
      · refine .inr ⟨i + 1, n, h1, h2, e2.trans h3, fun pos => ?_⟩
        rw [e, h4, List.drop_succ_cons]
        have e3 : k + 1 + i = k + (i + 1) := by omega
        rw [e3]
theorem scanL_le (j pos : Nat) : ∀ (M : List Nat) (k a : Nat), a ≤ k → (scanL j pos M k a).2 ≤ k + M.length ∧ (scanL j pos M k a).1 ≤ M.length ∧ a ≤ (scanL j pos M k a).2
  | [], k, a, h => by simp [scanL]; omega
  | m :: M, k, a, h => by
    have h1 := scanL_le j pos M (k + 1) a (by omega)
    have h2 := scanL_le j pos M (k + 1) (k + 1) (by omega)
    simp only [scanL, List.length_cons]
    split
    · omega
    · split
      · simp only; omega
      · simp only; omega
theorem lvl_le (hts : List Nat) (pos : Nat) : ∀ i, (lvl hts pos i).2 ≤ hts.length ∧ (lvl hts pos i).1 ≤ i * hts.length
  | 0 => by simp [lvl]
  | i + 1 => by
    have h1 := lvl_le hts pos i
    have h2 := scanL_le (11 - i) pos (hts.drop (lvl hts pos i).2) (lvl hts pos i).2 (lvl hts pos i).2 (Nat.le_refl _)
    simp only [lvl, List.length_drop] at h2 ⊢
    rw [Nat.add_mul]
    omega
end Mt
end Go.Proofs.Ytgkgfghmpimaoaa
