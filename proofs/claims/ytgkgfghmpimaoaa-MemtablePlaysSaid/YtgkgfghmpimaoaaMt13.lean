/- memtable: the table's contracts, told of a list of entries and heights. -/
import Derived.Test.YtgkgfghmpimaoaaMt12
set_option linter.unusedVariables false
set_option linter.unusedSimpArgs false
namespace Go.Proofs.Ytgkgfghmpimaoaa
open Go.RowKit
namespace Mt
abbrev Pl : Type := List (En × Nat)
def posF (l : List En) (key : List Int) (seq : Int) : Nat := (l.takeWhile fun y => aheadB y key seq).length
theorem pos_of (key : List Int) (seq : Int) : ∀ (l : List En), Asc l → Pos l key seq (posF l key seq)
  | [], _ => ⟨by simp [posF], fun i x h => by simp at h⟩
  | y :: l, h => by
    have hc := List.pairwise_cons.1 h
    have ih := pos_of key seq l hc.2
    by_cases ha : aheadB y key seq = true
    · have e : posF (y :: l) key seq = posF l key seq + 1 := by simp [posF, List.takeWhile_cons, ha]
      rw [e]
      refine ⟨by have := ih.1; simp; omega, fun i x hx => ?_⟩
      cases i with
      | zero =>
        simp only [List.getElem?_cons_zero, Option.some.injEq] at hx
        subst hx
        rw [ha]
        simp
      | succ i =>
        rw [List.getElem?_cons_succ] at hx
        rw [ih.2 i x hx]
        simp
    · have e : posF (y :: l) key seq = 0 := by simp [posF, List.takeWhile_cons, ha]
      rw [e]
      refine ⟨Nat.zero_le _, fun i x hx => ?_⟩
      have hf : aheadB x key seq = false := by
        cases i with
        | zero =>
          simp only [List.getElem?_cons_zero, Option.some.injEq] at hx
          subst hx
          simpa using ha
        | succ i =>
          rw [List.getElem?_cons_succ] at hx
          have hyx := hc.1 x (List.mem_of_getElem? hx)
          have e1 := ahead_iff x (key, seq, false, [])
          have e2 := ahead_iff y (key, seq, false, [])
          simp only at e1 e2
          rw [e2] at ha
          rw [e1, decide_eq_false_iff_not]
          intro hq
          exact ha (decide_eq_true (cmpE_trans hyx hq))
      rw [hf]
      simp
def TabP (S : Nat → Prop) (w : World) (tb : Nat) (hs : List Int) (P : Pl) : Prop := ∃ hd L, TabI S w tb hs hd L ∧ ndP L = P
theorem ndP_fst (L : List Nd) : (ndP L).map (·.1) = L.map (·.x) := by unfold ndP; rw [List.map_map]; rfl
theorem ndP_snd (L : List Nd) : (ndP L).map (·.2) = hts L := by unfold ndP hts; rw [List.map_map]; rfl
theorem ndP_len (L : List Nd) : (ndP L).length = L.length := by unfold ndP; rw [List.length_map]
theorem TabP.keep {S : Nat → Prop} {w w' : World} {tb : Nat} {hs : List Int} {P : Pl} (h : TabP S w tb hs P) (c : Chg (fun b => ¬ S b) w w') : TabP S w' tb hs P := by
  obtain ⟨hd, L, h1, h2⟩ := h
  exact ⟨hd, L, h1.keep c, h2⟩
theorem TabP.below {S : Nat → Prop} {w w' : World} {tb : Nat} {hs : List Int} {P : Pl} (h : TabP S w tb hs P) (c : Below w.heap.size w w') : TabP S w' tb hs P := h.keep (.of_ext c)
theorem TabP.asc {S : Nat → Prop} {w : World} {tb : Nat} {hs : List Int} {P : Pl} (h : TabP S w tb hs P) : Asc (P.map (·.1)) := by
  obtain ⟨hd, L, h1, rfl⟩ := h
  rw [ndP_fst]
  exact h1.asc
theorem TabP.lt {S : Nat → Prop} {w : World} {tb : Nat} {hs : List Int} {P : Pl} (h : TabP S w tb hs P) : ∀ b, S b → b < w.heap.size := by
  obtain ⟨hd, L, h1, rfl⟩ := h
  exact h1.lt
theorem TabP.len {S : Nat → Prop} {w : World} {tb : Nat} {hs : List Int} {P : Pl} (h : TabP S w tb hs P) : P.length ≤ 1000 := by
  obtain ⟨hd, L, h1, rfl⟩ := h
  rw [ndP_len]
  exact h1.len
theorem TabP.each {S : Nat → Prop} {w : World} {tb : Nat} {hs : List Int} {P : Pl} (h : TabP S w tb hs P) : ∀ p ∈ P, mayB p.1 = true ∧ 1 ≤ p.2 ∧ p.2 ≤ 12 := by
  obtain ⟨hd, L, h1, rfl⟩ := h
  intro p hp
  obtain ⟨n, hn, rfl⟩ := List.mem_map.1 hp
  exact ⟨h1.may n hn, (h1.nds n (List.mem_cons_of_mem _ hn)).hh⟩
def putCF (P : Pl) (x : En) : Int := putC (P.map (·.1)) (posF (P.map (·.1)) x.1 x.2.1) x
def putF (hs : List Int) (P : Pl) (x : En) : Pl := putN P (posF (P.map (·.1)) x.1 x.2.1) x (hgtI hs P.length).toNat (putCF P x)
def PutQ (S : Nat → Prop) (tb : Nat) (hs : List Int) (P : Pl) (x : En) (w : World) (e : Ending) (w' : World) : Prop :=
  e = .returned (.int .i64 (putCF P x)) ∧ Chg S w w' ∧ TabP (fun k => S k ∨ w.heap.size ≤ k ∧ k < w'.heap.size) w' tb hs (putF hs P x)
theorem tPut (S : Nat → Prop) (tb : Nat) (hs : List Int) (P : Pl) (kv vv : Value) (x : En) (w : World) (hT : TabP S w tb hs P) (hk : IsB w kv x.1) (hv : IsB w vv x.2.2.2) (hu : U64 x.2.1) (hn : P.length < 1000) :
    Calls Try.prog 21 #[.pointer (some ⟨tb, 0, none⟩), .agg #[kv, .int .u64 x.2.1, .bool x.2.2.1, vv]] w (PutQ S tb hs P x w) := by
  obtain ⟨hd, L, h1, rfl⟩ := hT
  rw [ndP_len] at hn
  refine (put_any S tb hs hd L kv vv x _ w h1 hk hv hu (pos_of x.1 x.2.1 _ h1.asc) hn).mono ?_
  rintro e w' ⟨rfl, h2, L', h3, h4⟩
  unfold PutQ putCF putF
  rw [ndP_fst, ndP_len]
  exact ⟨rfl, h2, hd, L', h3, by rw [h4]; unfold putCF; rw [ndP_fst]⟩
theorem tGet (S : Nat → Prop) (tb : Nat) (hs : List Int) (P : Pl) (kv : Value) (key : List Int) (seq : Int) (w : World) (hT : TabP S w tb hs P) (hk : IsB w kv key) :
    Calls Try.prog 9 #[.pointer (some ⟨tb, 0, none⟩), kv, .int .u64 seq] w (GetP (getE (P.map (·.1)) (posF (P.map (·.1)) key seq) key) w) := by
  obtain ⟨hd, L, h1, rfl⟩ := hT
  rw [ndP_fst]
  exact get_any S tb hs hd L kv key seq _ w h1 hk (pos_of key seq _ h1.asc)
theorem tSteps (S : Nat → Prop) (tb : Nat) (hs : List Int) (P : Pl) (kv : Value) (key : List Int) (seq : Int) (w : World) (hT : TabP S w tb hs P) (hk : IsB w kv key) :
    Calls Try.prog 18 #[.pointer (some ⟨tb, 0, none⟩), kv, .int .u64 seq] w (Ret (.int .i64 (lvl (P.map (·.2)) (posF (P.map (·.1)) key seq) 12).1) w) := by
  obtain ⟨hd, L, h1, rfl⟩ := hT
  rw [ndP_fst, ndP_snd]
  exact steps_any S tb hs hd L kv key seq _ w h1 hk (pos_of key seq _ h1.asc)
theorem tLen {S : Nat → Prop} {tb : Nat} {hs : List Int} {P : Pl} {w : World} (hT : TabP S w tb hs P) : Calls Try.prog 23 #[.pointer (some ⟨tb, 0, none⟩)] w (Ret (.int .i64 P.length) w) := by
  obtain ⟨hd, L, h1, rfl⟩ := hT
  rw [ndP_len]
  exact len_any h1
theorem tBytes {S : Nat → Prop} {tb : Nat} {hs : List Int} {P : Pl} {w : World} (hT : TabP S w tb hs P) : Calls Try.prog 25 #[.pointer (some ⟨tb, 0, none⟩)] w (Ret (.int .i64 (bytesE (P.map (·.1)))) w) := by
  obtain ⟨hd, L, h1, rfl⟩ := hT
  rw [ndP_fst]
  exact bytes_any h1
def levelF (P : Pl) (i : Int) : List En := if 0 ≤ i then (P.filter fun p => decide (i < p.2)).map (·.1) else []
theorem tLevel (S : Nat → Prop) (tb : Nat) (hs : List Int) (P : Pl) (i : Int) (w : World) (hT : TabP S w tb hs P) : Calls Try.prog 16 #[.pointer (some ⟨tb, 0, none⟩), .int .i64 i] w (LevelP (levelF P i) w) := by
  obtain ⟨hd, L, h1, rfl⟩ := hT
  have e : levelF (ndP L) i = levelI L i := by
    unfold levelF levelI lvlE ndP
    split
    · rw [List.filter_map, List.map_map]
      congr 1
      refine List.filter_congr fun n _ => ?_
      simp only [Function.comp]
      rw [decide_eq_decide]
      omega
    · rfl
  rw [e]
  exact level_any S tb hs hd L i w h1
theorem tScan (S : Nat → Prop) (tb : Nat) (hs : List Int) (P : Pl) (fv : Value) (key : List Int) (most : Int) (w : World) (hT : TabP S w tb hs P) (hk : IsB w fv key) (hl : key.length ≤ 140737488355328) (hm : 1 ≤ most ∧ most ≤ 300) :
    Calls Try.prog 13 #[.pointer (some ⟨tb, 0, none⟩), fv, .int .i64 most] w (fun e w' => ∃ v, e = .returned v ∧ OwnEs w' w.heap.size v (((P.map (·.1)).drop (posF (P.map (·.1)) key 4611686018427387905)).take most.toNat) ∧ Below w.heap.size w w') := by
  obtain ⟨hd, L, h1, rfl⟩ := hT
  rw [ndP_fst]
  exact scan_any S tb hs hd L fv key _ most w h1 hk hl (pos_of key _ _ h1.asc) hm
def NewQ (hs : List Int) (w : World) (e : Ending) (w' : World) : Prop := ∃ tb, e = .returned (.pointer (some ⟨tb, 0, none⟩)) ∧ TabP (fun k => w.heap.size ≤ k ∧ k < w'.heap.size) w' tb hs [] ∧ Below w.heap.size w w'
theorem tNew (v : Value) (hs : List Int) (w : World) (h : IsI w v hs) (hl : hs.length ≤ 17592186044416) : Calls Try.prog 7 #[v] w (NewQ hs w) :=
  (new_any v hs w h hl).mono fun e w' ⟨tb, hd, h1, h2, h3⟩ => ⟨tb, h1, ⟨hd, [], h2, rfl⟩, h3⟩
end Mt
end Go.Proofs.Ytgkgfghmpimaoaa
