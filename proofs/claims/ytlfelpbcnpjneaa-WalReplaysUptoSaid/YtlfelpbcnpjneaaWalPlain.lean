/- wal: the plain laws of frames, of reading batches, of torn bytes. No program in sight. -/
import Derived.Test.YtlfelpbcnpjneaaWalReadL
import Derived.Test.YtlfelpbcnpjneaaCodecInj
import Derived.Test.YtlfelpbcnpjneaaCodecTF
import Derived.Test.YtlfelpbcnpjneaaWalSame
namespace Go.Proofs.Ytlfelpbcnpjneaa
open Go.RowKit
namespace Wal
open Codec
theorem lenF_num {n : Nat} (hn : n ≤ 2097152) (r : List Int) (more : Nat) (h : n + more ≤ r.length) : lenF (numN n ++ r) more = ((n : Int), ((numN n).length : Int), 0) := by
  unfold lenF
  rw [takeN_num (by omega)]
  simp only [List.length_append]
  rw [if_neg (by simp), if_neg (by omega), if_neg (by omega)]
theorem takeTextF_num (l m : List Int) (hl : l.length ≤ 2097152) : takeTextF (numN l.length ++ l ++ m) = (l, ((numN l.length).length : Int) + l.length, 0) := by
  unfold takeTextF
  have e := lenF_num hl (l ++ m) 0 (by rw [List.length_append]; omega)
  rw [List.append_assoc]
  have e' : lenF (numN l.length ++ (l ++ m)) 0 = ((l.length : Int), ((numN l.length).length : Int), 0) := e
  rw [e']
  simp
theorem headF_len (k : Int) (l : List Int) : (headF k l).length = (numN l.length).length + 1 := rfl
theorem frameF_rng {k : Int} (hk : 0 ≤ k ∧ k ≤ 255) {l : List Int} (h : Rng l) : Rng (frameF k l) := ((headF_rng hk l).append (le4_rng _)).append h
/-- what lies behind a head of so many bytes -/
theorem takeFrameF_of {k : Int} {S B m : List Int} {n : Nat} (hn : n ≤ 2097152) (hS : S.length = 4) (hB : B.length = n) :
    takeFrameF (k :: numN n ++ S ++ B ++ m) = if S ≠ le4 (sumsF (k :: numN n) B) then (0, [], 0, 13) else (k, B, ((numN n).length : Int) + 5 + n, 0) := by
  have e1 : (k :: numN n ++ S ++ B ++ m).drop 1 = numN n ++ (S ++ B ++ m) := by simp
  have e2 : lenF (numN n ++ (S ++ B ++ m)) 4 = ((n : Int), ((numN n).length : Int), 0) := lenF_num hn _ 4 (by simp; omega)
  have e3 : (k :: numN n ++ S ++ B ++ m).take ((numN n).length + 1) = k :: numN n := by
    rw [List.append_assoc, List.append_assoc]; exact List.take_left' rfl
  have e4 : (k :: numN n ++ S ++ B ++ m).drop ((numN n).length + 1) = S ++ (B ++ m) := by
    rw [List.append_assoc, List.append_assoc]; exact List.drop_left' rfl
  have e5 : (k :: numN n ++ S ++ B ++ m).drop ((numN n).length + 5) = B ++ m := by
    rw [show (numN n).length + 5 = (numN n).length + 1 + 4 from rfl, ← List.drop_drop, e4]; exact List.drop_left' hS
  unfold takeFrameF
  rw [e1, e2, if_neg (by simp), if_neg (by simp)]
  simp only [Int.toNat_natCast]
  rw [e3, e4, e5, List.take_left' hS, List.take_left' hB]
  rfl
theorem takeFrameF_frame {k : Int} (_ : 0 ≤ k ∧ k ≤ 255) (l m : List Int) (hl : l.length ≤ 2097152) :
    takeFrameF (frameF k l ++ m) = (k, l, ((numN l.length).length : Int) + 5 + l.length, 0) := by
  have := takeFrameF_of (k := k) (B := l) (S := le4 (sumsF (headF k l) l)) (m := m) hl rfl rfl
  rw [if_neg (by simp [headF])] at this
  exact this
theorem takeN_torn {n c : Nat} (hn : n < 18446744073709551616) (hc : c < (numN n).length) : takeN ((numN n).take c) = (0, 0, 10) := by
  obtain ⟨pre, z, h1, h2, -, -, -, -⟩ := numN_shape n
  have hlen := numN_len10 hn
  have hl : ((numN n).take c).length = c := by rw [List.length_take]; omega
  refine take_short (k := c) (fun x hx => ?_) (by omega) hl.symm
  rw [List.take_take, Nat.min_self, h1] at hx
  rw [h1, List.length_append] at hc
  rw [List.take_append_of_le_length (by simp at hc; omega)] at hx
  exact h2 x (List.mem_of_mem_take hx)
theorem lenF_torn {n c more : Nat} (hn : n ≤ 2097152) (r : List Int) (hc : c < (numN n).length + more + n) : lenF ((numN n ++ r).take c) more = (0, 0, 10) := by
  by_cases h : c < (numN n).length
  · have e : (numN n ++ r).take c = (numN n).take c := List.take_append_of_le_length (by omega)
    unfold lenF
    rw [e, takeN_torn (by omega) h]
    simp
  · have e : (numN n ++ r).take c = numN n ++ r.take (c - (numN n).length) := by rw [List.take_append, List.take_of_length_le (by omega)]
    unfold lenF
    rw [e, takeN_num (by omega)]
    simp only [List.length_append, List.length_take]
    rw [if_neg (by simp), if_neg (by omega), if_pos (by omega)]
theorem takeTextF_torn {l : List Int} {c : Nat} (hl : l.length ≤ 2097152) (hc : c < (numN l.length ++ l).length) : takeTextF ((numN l.length ++ l).take c) = ([], 0, 10) := by
  have e : lenF ((numN l.length ++ l).take c) 0 = (0, 0, 10) := lenF_torn (more := 0) hl l (by rw [List.length_append] at hc; omega)
  unfold takeTextF
  rw [e, if_pos (by decide)]
theorem takeFrameF_torn {k : Int} {l : List Int} {c : Nat} (hl : l.length ≤ 2097152) (hc : c < (frameF k l).length) : takeFrameF ((frameF k l).take c) = (0, [], 0, 10) := by
  have hfl : (frameF k l).length = (numN l.length).length + 5 + l.length := by simp [frameF, headF, le4_len]; omega
  cases c with
  | zero => rfl
  | succ c =>
    have e1 : ((frameF k l).take (c + 1)).drop 1 = (numN l.length ++ (le4 (sumsF (headF k l) l) ++ l)).take c := by
      unfold frameF headF
      simp
    have e2 : lenF ((numN l.length ++ (le4 (sumsF (headF k l) l) ++ l)).take c) 4 = (0, 0, 10) := lenF_torn (more := 4) hl _ (by omega)
    unfold takeFrameF
    rw [e1, e2, if_neg (by rw [List.length_take]; omega), if_pos (by decide)]
/-- a frame with one byte of its sum or its body turned -/
theorem turned_spoilt {kd : Int} {l : List Int} (hr : Rng l) (hl : l.length ≤ 2097152) {r : Nat} {x y : Int} (hlt : r < l.length + 4) (hx : 0 ≤ x ∧ x ≤ 255)
    (hy : (frameF kd l)[(numN l.length).length + 1 + r]? = some y) (hne : x ≠ y) (m : List Int) : takeFrameF ((frameF kd l).set ((numN l.length).length + 1 + r) x ++ m) = (0, [], 0, 13) := by
  have hA : (headF kd l).length = (numN l.length).length + 1 := rfl
  have hS := le4_len (sumsF (headF kd l) l)
  unfold frameF at hy ⊢
  by_cases h4 : r < 4
  · have e1 : (headF kd l ++ le4 (sumsF (headF kd l) l) ++ l).set ((numN l.length).length + 1 + r) x = headF kd l ++ (le4 (sumsF (headF kd l) l)).set r x ++ l := by
      rw [List.append_assoc, List.set_append, if_neg (by omega), List.set_append, if_pos (by rw [hS]; omega), ← List.append_assoc]
      congr 3
      omega
    have e2 : (headF kd l ++ le4 (sumsF (headF kd l) l) ++ l)[(numN l.length).length + 1 + r]? = (le4 (sumsF (headF kd l) l))[r]? := by
      rw [List.append_assoc, List.getElem?_append_right (by omega), List.getElem?_append_left (by rw [hS]; omega)]
      congr 1
      omega
    rw [e2] at hy
    rw [e1]
    have h := takeFrameF_of (k := kd) (S := (le4 (sumsF (headF kd l) l)).set r x) (B := l) (m := m) hl (by rw [List.length_set]; rfl) rfl
    refine h.trans (if_pos fun he => hne ?_)
    have h5 := congrArg (fun z => z[r]?) he
    have h6 : ((le4 (sumsF (headF kd l) l)).set r x)[r]? = some x := by rw [List.getElem?_set_self]; rw [hS]; exact h4
    have h7 : (le4 (sumsF (kd :: numN l.length) l))[r]? = some y := hy
    simp only [h6, h7] at h5
    exact Option.some.inj h5
  · obtain ⟨q, rfl⟩ : ∃ q, r = 4 + q := ⟨r - 4, by omega⟩
    have e1 : (headF kd l ++ le4 (sumsF (headF kd l) l) ++ l).set ((numN l.length).length + 1 + (4 + q)) x = headF kd l ++ le4 (sumsF (headF kd l) l) ++ l.set q x := by
      rw [List.set_append, if_neg (by rw [List.length_append]; omega)]
      congr 2
      rw [List.length_append]; omega
    have e2 : (headF kd l ++ le4 (sumsF (headF kd l) l) ++ l)[(numN l.length).length + 1 + (4 + q)]? = l[q]? := by
      rw [List.getElem?_append_right (by rw [List.length_append]; omega)]
      congr 1
      rw [List.length_append]; omega
    rw [e2] at hy
    rw [e1]
    have h := takeFrameF_of (k := kd) (S := le4 (sumsF (headF kd l) l)) (B := l.set q x) (m := m) hl rfl (List.length_set ..)
    refine h.trans (if_pos fun he => hne ?_)
    have h5 := le4_inj (sumsF_rng _ _) (sumsF_rng _ _) he
    have h6 := sumsF_set (a := headF kd l) (x := x) (k := q) hr hx (by omega) h5.symm
    rw [hy] at h6
    exact (Option.some.inj h6).symm

/-- the bytes of a number, read, are that number's -/
theorem num_v128 : ∀ (pre : List Int) (z : Int), (∀ x ∈ pre, 128 ≤ x ∧ x ≤ 255) → 0 ≤ z → z < 128 → (pre ≠ [] → 0 < z) → ∃ n : Nat, v128 (pre ++ [z]) = n ∧ numN n = pre ++ [z] ∧ (pre ≠ [] ∨ 0 < z → 0 < n)
  | [], z, _, h0, h1, _ => ⟨z.toNat, by simp [v128]; omega, by rw [numN_lo (by omega)]; simp; omega, fun h => by
      rcases h with h | h
      · exact absurd rfl h
      · omega⟩
  | x :: pre, z, hp, h0, h1, h2 => by
    have hz := h2 (by simp)
    obtain ⟨n, e1, e2, e3⟩ := num_v128 pre z (fun y hy => hp y (by simp [hy])) h0 h1 (fun _ => hz)
    have hx := hp x (by simp)
    have hn := e3 (.inr hz)
    refine ⟨(x - 128).toNat + 128 * n, ?_, ?_, fun _ => by omega⟩
    · simp only [List.cons_append, v128]; rw [e1]; omega
    · rw [numN_hi (by omega), List.cons_append, ← e2, show ((x - 128).toNat + 128 * n) / 128 = n by omega]
      congr 1
      omega
theorem takeN_canon {l : List Int} (hr : Rng l) {n a : Int} (h : takeN l = (n, a, 0)) : ∃ N : Nat, n = N ∧ a = ((numN N).length : Int) ∧ l.take (numN N).length = numN N ∧ (numN N).length ≤ l.length := by
  cases hf : (l.take 10).findIdx? (fun x => decide (x < 128)) with
  | none =>
    have e : takeN l = if l.length < 10 then (0, 0, 10) else (0, 0, 11) := by unfold takeN; rw [hf]
    rw [e] at h
    split at h <;> simp at h
  | some e =>
    obtain ⟨he, hp, hb⟩ := List.findIdx?_eq_some_iff_getElem.1 hf
    rw [List.length_take] at he
    have hel : e < l.length := by omega
    rw [List.getElem_take] at hp
    have ee : takeN l = if (0 < e ∧ l.getD e 0 = 0) ∨ (e = 9 ∧ 1 < l.getD 9 0) then (0, 0, 11) else (v128 (l.take (e + 1)), (e : Int) + 1, 0) := by unfold takeN; rw [hf]
    rw [ee] at h
    split at h
    · simp at h
    · rename_i hn
      simp only [Prod.mk.injEq, and_true] at h
      obtain ⟨h1, h2⟩ := h
      have hc := hr _ (List.getElem_mem hel)
      have hget : l.getD e 0 = l[e] := by rw [List.getD_eq_getElem?_getD, List.getElem?_eq_getElem hel]; rfl
      have e1 : l.take (e + 1) = l.take e ++ [l[e]] := by rw [List.take_succ_eq_append_getElem hel]
      have hpre : ∀ x ∈ l.take e, 128 ≤ x ∧ x ≤ 255 := by
        intro x hx
        obtain ⟨j, hj, rfl⟩ := List.getElem_of_mem hx
        rw [List.length_take] at hj
        have hj2 : j < e := by omega
        have h3 := hb j hj2
        rw [List.getElem_take] at h3
        rw [List.getElem_take]
        have h4 := hr _ (List.getElem_mem (show j < l.length by omega))
        simp at h3
        exact ⟨by omega, h4.2⟩
      have hp' : l[e] < 128 := by simpa using hp
      obtain ⟨N, n1, n2, -⟩ := num_v128 (l.take e) l[e] hpre hc.1 hp' (fun hne => by
        have h0 : 0 < e := by
          rcases Nat.eq_zero_or_pos e with h | h
          · subst h; simp at hne
          · exact h
        have : ¬ l.getD e 0 = 0 := fun h => hn (.inl ⟨h0, h⟩)
        rw [hget] at this
        omega)
      rw [← e1] at n1 n2
      have hlen : (numN N).length = e + 1 := by rw [n2, List.length_take]; omega
      exact ⟨N, by rw [← h1, n1], by rw [← h2, hlen]; simp, by rw [hlen, n2], by omega⟩
/-- a frame that is read is the one that was laid -/
theorem takeFrameF_canon {l : List Int} (hr : Rng l) {k n : Int} {b : List Int} (h : takeFrameF l = (k, b, n, 0)) : l.take n.toNat = frameF k b ∧ n = ((frameF k b).length : Int) ∧ b.length ≤ 2097152 ∧ n.toNat ≤ l.length ∧ 6 ≤ n.toNat ∧ (0 ≤ k ∧ k ≤ 255) ∧ Rng b := by
  cases l with
  | nil => simp [takeFrameF] at h
  | cons x r =>
    have hrr : Rng r := fun y hy => hr y (by simp [hy])
    have e0 : takeFrameF (x :: r) = if (lenF r 4).2.2 ≠ 0 then (0, [], 0, (lenF r 4).2.2)
      else if (r.drop ((lenF r 4).2.1.toNat)).take 4 ≠ le4 (sumsF (x :: r.take ((lenF r 4).2.1.toNat)) ((r.drop ((lenF r 4).2.1.toNat + 4)).take (lenF r 4).1.toNat)) then (0, [], 0, 13)
      else (x, (r.drop ((lenF r 4).2.1.toNat + 4)).take (lenF r 4).1.toNat, (lenF r 4).2.1 + 5 + (lenF r 4).1, 0) := by
      unfold takeFrameF
      simp
    rw [e0] at h
    have hb := lenF_bd hrr 4 (by decide)
    by_cases h1 : (lenF r 4).2.2 ≠ 0
    · rw [if_pos h1] at h
      simp only [Prod.mk.injEq] at h
      exact absurd h.2.2.2 h1
    · rw [if_neg h1] at h
      split at h
      · simp at h
      · rename_i hs
        have hs := Decidable.not_not.1 hs
        obtain ⟨c1, c2, c3, c4⟩ := hb.2.2 (by omega)
        have hL : ∃ N : Nat, (lenF r 4).1 = N ∧ (lenF r 4).2.1 = ((numN N).length : Int) ∧ r.take (numN N).length = numN N := by
          have e : lenF r 4 = if (takeN r).2.2 ≠ 0 then (0, 0, (takeN r).2.2) else if 2097152 < (takeN r).1 then (0, 0, 12) else if (r.length : Int) - (takeN r).2.1 - 4 < (takeN r).1 then (0, 0, 10) else ((takeN r).1, (takeN r).2.1, 0) := rfl
          by_cases g1 : (takeN r).2.2 ≠ 0
          · rw [if_pos g1] at e; rw [e] at h1; exact absurd g1 h1
          · rw [if_neg g1] at e
            by_cases g2 : 2097152 < (takeN r).1
            · rw [if_pos g2] at e; rw [e] at h1; simp at h1
            · rw [if_neg g2] at e
              by_cases g3 : (r.length : Int) - (takeN r).2.1 - 4 < (takeN r).1
              · rw [if_pos g3] at e; rw [e] at h1; simp at h1
              · rw [if_neg g3] at e
                obtain ⟨N, n1, n2, n3, -⟩ := takeN_canon hrr (n := (takeN r).1) (a := (takeN r).2.1) (by
                  have : (takeN r).2.2 = 0 := by omega
                  rw [← this])
                exact ⟨N, by rw [e]; exact n1, by rw [e]; exact n2, n3⟩
        obtain ⟨N, n1, n2, n3⟩ := hL
        rw [n1, n2] at h hs c4
        rw [n1] at c2
        simp only [Int.toNat_natCast] at h hs
        simp only [Prod.mk.injEq, and_true] at h
        obtain ⟨h5, h6, h7⟩ := h
        have hbl : b.length = N := by rw [← h6, List.length_take, List.length_drop]; omega
        have hhead : x :: numN N = headF k b := by rw [← h5]; unfold headF; rw [hbl]
        rw [n3, h6, hhead] at hs
        have hfl : (frameF k b).length = (numN N).length + 5 + N := by unfold frameF headF; simp [le4_len, hbl]; omega
        have hn : n.toNat = (numN N).length + 5 + N := by omega
        refine ⟨?_, by rw [hfl]; omega, by omega, by rw [hn, List.length_cons]; omega, by have := numN_pos N; omega, ?_, ?_⟩
        · rw [hn, show (numN N).length + 5 + N = ((numN N).length + 4 + N) + 1 by omega, List.take_succ_cons]
          have e3 : r.take ((numN N).length + 4 + N) = r.take (numN N).length ++ (r.drop (numN N).length).take 4 ++ (r.drop ((numN N).length + 4)).take N := by
            rw [List.take_add, List.take_add]
          rw [e3, n3, hs, h6]
          unfold frameF
          rw [← hhead]
          simp
        · rw [← h5]; exact hr x (by simp)
        · rw [← h6]; exact (hrr.drop _).take _
end Wal
end Go.Proofs.Ytlfelpbcnpjneaa
namespace Go.Proofs.Ytlfelpbcnpjneaa
open Go.RowKit
namespace Wal
open Codec
def hdSeq (b : List Int) : Nat := (takeN b).1.toNat
def hdMany (b : List Int) : Nat := (takeN (numRest b)).1.toNat
def hdL (b : List Int) : List Int := numRest (numRest b)
def hdB (b : List Int) : Bool := numBad (numRest b) (numBad b false)
/-- the operations of a body; whether something went wrong -/
def prOps (b : List Int) : List Opr × Bool := if hdB b then ([], true) else rdOps ((hdL b).length + 1) (hdMany b) (hdL b)
/-- what the program's read answers: Seq, operations, whether it is a batch -/
def rdRes (f b : List Int) : Nat × List Opr × Bool :=
  if (prOps b).2 then (0, [], false) else (hdSeq b, (prOps b).1, decide ((encF (hdSeq b) (prOps b).1).2 = 0 ∧ (encF (hdSeq b) (prOps b).1).1 = f))
/-- what the document's read answers -/
def rrdRes (b : List Int) : Nat × List Opr × Bool :=
  if hdB b = true ∨ 256 < hdMany b ∨ (prOps b).2 = true then (0, [], false)
  else if (encF (hdSeq b) (prOps b).1).2 ≠ 0 then (0, [], false)
  else (hdSeq b, (prOps b).1, decide ((encF (hdSeq b) (prOps b).1).1 = frameF 66 b))
theorem rdOps_many : ∀ (f m : Nat) (l : List Int), (rdOps f m l).2 = false → (rdOps f m l).1.length = m
  | 0, _, _, h => by simp [rdOps] at h
  | _ + 1, 0, _, _ => rfl
  | f + 1, m + 1, l, h => by
    rw [rdOps] at h ⊢
    by_cases hb : stB l = true
    · rw [if_pos hb] at h; cases h
    · rw [if_neg hb] at h ⊢
      rw [List.length_cons, rdOps_many f m (stL l) h]
theorem encF_ok {s : Nat} {l : List Opr} (h : (encF s l).2 = 0) : (encF s l).1 = frameF 66 (bodyB s l) ∧ 1 ≤ l.length ∧ l.length ≤ 256 ∧ l.all fitsB = true ∧ 1 ≤ s ∧ s + l.length ≤ 4611686018427387904 ∧ (bodyB s l).length ≤ 1048576 := by
  unfold encF at h ⊢
  by_cases h1 : l.length < 1 ∨ 256 < l.length ∨ l.all fitsB = false
  · rw [if_pos h1] at h; simp at h
  · rw [if_neg h1] at h ⊢
    by_cases h2 : s < 1 ∨ 4611686018427387904 < s + l.length
    · rw [if_pos h2] at h; simp at h
    · rw [if_neg h2] at h ⊢
      by_cases h3 : 1048576 < (bodyB s l).length
      · rw [if_pos h3] at h; simp at h
      · rw [if_neg h3]
        have h4 : ¬ l.all fitsB = false := fun h => h1 (.inr (.inr h))
        exact ⟨rfl, by omega, by omega, by simpa using h4, by omega, by omega, by omega⟩
/-- of a frame the two are one -/
theorem rd_same {k : Int} (b : List Int) : ((rdRes (frameF k b) b).2.2 = true ↔ k = 66 ∧ (rrdRes b).2.2 = true) ∧ (k = 66 → (rrdRes b).2.2 = true → rdRes (frameF k b) b = rrdRes b) := by
  unfold rdRes rrdRes
  have hp : hdB b = true → (prOps b).2 = true := fun h => by unfold prOps; rw [if_pos h]
  by_cases h1 : (prOps b).2 = true
  · rw [if_pos h1, if_pos (.inr (.inr h1))]; simp
  · have h1' : (prOps b).2 = false := by simpa using h1
    have h2 : ¬ hdB b = true := fun h => h1 (hp h)
    have hm : (prOps b).1.length = hdMany b := by
      unfold prOps at h1' ⊢
      rw [if_neg h2] at h1' ⊢
      exact rdOps_many _ _ _ h1'
    rw [if_neg h1]
    by_cases h3 : (encF (hdSeq b) (prOps b).1).2 = 0
    · obtain ⟨e1, -, e3, -⟩ := encF_ok h3
      rw [if_neg (by rintro (h | h | h); exact h2 h; omega; exact h1 h), if_neg (by simpa using h3)]
      by_cases hk : k = 66
      · subst hk
        simp [h3]
      · have hne : ¬ (encF (hdSeq b) (prOps b).1).1 = frameF k b := by
          rw [e1]
          intro h
          unfold frameF headF at h
          simp at h
          exact hk h.1.symm
        simp [hne, hk]
    · have : ¬ ((encF (hdSeq b) (prOps b).1).2 = 0 ∧ (encF (hdSeq b) (prOps b).1).1 = frameF k b) := fun h => h3 h.1
      rw [decide_eq_false this]
      by_cases h4 : hdB b = true ∨ 256 < hdMany b ∨ (prOps b).2 = true
      · rw [if_pos h4]; simp
      · rw [if_neg h4, if_pos h3]; simp
/-- what holds in the loop of the program's read -/
def rdJ (b : List Int) (i : Nat) (cur : List Int) (bad : Bool) (ops : List Opr) : Prop :=
  (bad = true → (prOps b).2 = true ∧ ops.length ≤ b.length + 1) ∧
  (bad = false → i ≤ hdMany b ∧ (ops ++ (rdOps (cur.length + 1) (hdMany b - i) cur).1, (rdOps (cur.length + 1) (hdMany b - i) cur).2) = prOps b ∧ ops.length + cur.length ≤ b.length)
theorem numRest_len (l : List Int) : (numRest l).length ≤ l.length := by
  unfold numRest
  split
  · rw [List.length_drop]; omega
  · exact Nat.le_refl _
theorem rdJ_start (b : List Int) : rdJ b 0 (hdL b) (hdB b) [] := by
  refine ⟨fun h => ⟨by unfold prOps; rw [if_pos h], by simp⟩, fun h => ⟨by omega, ?_, ?_⟩⟩
  · unfold prOps; rw [if_neg (by rw [h]; decide)]; rfl
  · have h1 := numRest_len b
    have h2 := numRest_len (numRest b)
    unfold hdL
    simp only [List.length_nil]
    omega
theorem rdJ_step {b : List Int} {i : Nat} {cur : List Int} {ops : List Opr} (h : rdJ b i cur false ops) (hi : i < hdMany b) : rdJ b (i + 1) (stL cur) (stB cur) (ops ++ [stOp cur]) := by
  obtain ⟨-, h2⟩ := h
  obtain ⟨-, h3, h4⟩ := h2 rfl
  obtain ⟨m, hm⟩ : ∃ m, hdMany b - i = m + 1 := ⟨hdMany b - i - 1, by omega⟩
  have hm2 : hdMany b - (i + 1) = m := by omega
  rw [hm, rdOps] at h3
  refine ⟨fun hb => ?_, fun hb => ?_⟩
  · rw [if_pos hb] at h3
    exact ⟨by rw [← h3], by simp; omega⟩
  · have hlt := stL_lt hb
    rw [if_neg (by rw [hb]; decide)] at h3
    rw [hm2, rdOps_fuel ((stL cur).length + 1) cur.length m (stL cur) (by omega) hlt]
    exact ⟨by omega, by rw [← h3]; simp, by simp; omega⟩
theorem rdJ_bad {b : List Int} {i : Nat} {cur : List Int} {ops : List Opr} {f : List Int} (h : rdJ b i cur true ops) : rdRes f b = (0, [], false) := by
  unfold rdRes
  rw [if_pos (h.1 rfl).1]
theorem rdJ_ok {b : List Int} {i : Nat} {cur : List Int} {ops : List Opr} {f : List Int} (h : rdJ b i cur false ops) (hi : ¬ i < hdMany b) : rdRes f b = (hdSeq b, ops, decide ((encF (hdSeq b) ops).2 = 0 ∧ (encF (hdSeq b) ops).1 = f)) := by
  obtain ⟨-, h2⟩ := h
  obtain ⟨-, h3, -⟩ := h2 rfl
  rw [show hdMany b - i = 0 by omega, rdOps, List.append_nil] at h3
  unfold rdRes
  rw [← h3, if_neg (by simp)]
theorem rdJ_len {b : List Int} {i : Nat} {cur : List Int} {bad : Bool} {ops : List Opr} (h : rdJ b i cur bad ops) : ops.length ≤ b.length + 1 := by
  cases bad with
  | true => exact (h.1 rfl).2
  | false => have := (h.2 rfl).2.2; omega
/-- batches read, from so many bytes on; nx: the Seq that must follow (0: any) -/
def repF : Nat → List Int → Nat → List Bat × Nat × Int
  | 0, _, _ => ([], 0, 0)
  | f + 1, l, nx =>
    if l = [] then ([], 0, 0) else if (takeFrameF l).2.2.2 ≠ 0 then ([], 0, (takeFrameF l).2.2.2)
    else if (rdRes (l.take (takeFrameF l).2.2.1.toNat) (takeFrameF l).2.1).2.2 = false then ([], 0, 63)
    else if 0 < nx ∧ (rdRes (l.take (takeFrameF l).2.2.1.toNat) (takeFrameF l).2.1).1 ≠ nx then ([], 0, 61)
    else (((rdRes (l.take (takeFrameF l).2.2.1.toNat) (takeFrameF l).2.1).1, (rdRes (l.take (takeFrameF l).2.2.1.toNat) (takeFrameF l).2.1).2.1) ::
        (repF f (l.drop (takeFrameF l).2.2.1.toNat) ((rdRes (l.take (takeFrameF l).2.2.1.toNat) (takeFrameF l).2.1).1 + (rdRes (l.take (takeFrameF l).2.2.1.toNat) (takeFrameF l).2.1).2.1.length)).1,
      (takeFrameF l).2.2.1.toNat + (repF f (l.drop (takeFrameF l).2.2.1.toNat) ((rdRes (l.take (takeFrameF l).2.2.1.toNat) (takeFrameF l).2.1).1 + (rdRes (l.take (takeFrameF l).2.2.1.toNat) (takeFrameF l).2.1).2.1.length)).2.1,
      (repF f (l.drop (takeFrameF l).2.2.1.toNat) ((rdRes (l.take (takeFrameF l).2.2.1.toNat) (takeFrameF l).2.1).1 + (rdRes (l.take (takeFrameF l).2.2.1.toNat) (takeFrameF l).2.1).2.1.length)).2.2)
end Wal
end Go.Proofs.Ytlfelpbcnpjneaa
namespace Go.Proofs.Ytlfelpbcnpjneaa
open Go.RowKit
namespace Wal
open Codec
theorem textRest_text (k r : List Int) (hk : k.length ≤ 2097152) : textRest (textB k ++ r) = r ∧ (∀ b, textBad (textB k ++ r) b = b) ∧ (takeTextF (textB k ++ r)).1 = k := by
  have e := takeTextF_num k r hk
  have e' : takeTextF (textB k ++ r) = (k, ((numN k.length).length : Int) + k.length, 0) := e
  refine ⟨?_, fun b => ?_, by rw [e']⟩
  · unfold textRest
    rw [e', if_pos rfl]
    have : (((numN k.length).length : Int) + k.length).toNat = (textB k).length := by unfold textB; rw [List.length_append]; omega
    simp only
    rw [this, List.drop_left' rfl]
  · unfold textBad
    rw [e', if_pos rfl]
theorem st_op {x : Opr} (h : fitsB x = true) (r : List Int) : stOp (opB x ++ r) = x ∧ stL (opB x ++ r) = r ∧ stB (opB x ++ r) = false := by
  obtain ⟨d, k, v⟩ := x
  unfold fitsB at h
  simp only [Bool.and_eq_true, decide_eq_true_eq, Bool.not_eq_true', Bool.and_eq_false_iff, decide_eq_false_iff_not] at h
  obtain ⟨⟨⟨h1, h2⟩, h3⟩, h4⟩ := h
  cases d with
  | true =>
    have hv : v = [] := by
      have : ¬ 0 < v.length := h1.resolve_left (by simp)
      exact List.eq_nil_of_length_eq_zero (by omega)
    subst hv
    have e : opB (true, k, []) ++ r = 1 :: (textB k ++ r) := by unfold opB; simp
    rw [e]
    obtain ⟨t1, t2, t3⟩ := textRest_text k r (by omega)
    have d1 : stDel (1 :: (textB k ++ r)) = true := rfl
    refine ⟨?_, ?_, ?_⟩
    · unfold stOp; rw [d1, List.drop_one, List.tail_cons, t3]; rfl
    · unfold stL; rw [d1, if_pos rfl]; unfold stL2; rw [List.drop_one, List.tail_cons, t1]
    · unfold stB; rw [d1, if_pos rfl]; unfold stB2; rw [List.drop_one, List.tail_cons, t2]; rfl
  | false =>
    have e : opB (false, k, v) ++ r = 0 :: (textB k ++ (textB v ++ r)) := by unfold opB; simp
    rw [e]
    obtain ⟨t1, t2, t3⟩ := textRest_text k (textB v ++ r) (by omega)
    obtain ⟨u1, u2, u3⟩ := textRest_text v r (by omega)
    have d1 : stDel (0 :: (textB k ++ (textB v ++ r))) = false := rfl
    have e2 : stL2 (0 :: (textB k ++ (textB v ++ r))) = textB v ++ r := by unfold stL2; rw [List.drop_one, List.tail_cons, t1]
    refine ⟨?_, ?_, ?_⟩
    · unfold stOp; rw [d1, List.drop_one, List.tail_cons, t3, e2, u3]; rfl
    · unfold stL; rw [d1, if_neg (by decide), e2, u1]
    · unfold stB; rw [d1, if_neg (by decide), e2, u2]; unfold stB2; rw [List.drop_one, List.tail_cons, t2]; rfl
theorem opB_pos (x : Opr) : 0 < (opB x).length := by unfold opB; split <;> simp
theorem rdOps_flat : ∀ (l : List Opr) (f : Nat), (∀ x ∈ l, fitsB x = true) → ((l.map opB).flatten).length < f → rdOps f l.length (l.map opB).flatten = (l, false)
  | [], 0, _, h => absurd h (by omega)
  | [], f + 1, _, _ => rfl
  | x :: l, 0, _, h => absurd h (by omega)
  | x :: l, f + 1, hx, h => by
    obtain ⟨h1, h2, h3⟩ := st_op (hx x (by simp)) (l.map opB).flatten
    have hp := opB_pos x
    rw [List.map_cons, List.flatten_cons, List.length_append] at h
    rw [List.length_cons, rdOps, List.map_cons, List.flatten_cons, h3, if_neg (by decide), h1, h2, rdOps_flat l f (fun y hy => hx y (by simp [hy])) (by omega)]
theorem numRest_num {n : Nat} (hn : n < 18446744073709551616) (r : List Int) : numRest (numN n ++ r) = r ∧ (∀ b, numBad (numN n ++ r) b = b) ∧ (takeN (numN n ++ r)).1 = n := by
  have e := takeN_num hn r
  refine ⟨?_, fun b => ?_, by rw [e]⟩
  · unfold numRest
    rw [e, if_pos rfl]
    simp only [Int.toNat_natCast]
    rw [List.drop_left' rfl]
  · unfold numBad
    rw [e, if_pos rfl]
/-- what a batch was laid down as is read as that batch -/
theorem rd_enc {s : Nat} {l : List Opr} (h : (encF s l).2 = 0) : rdRes (frameF 66 (bodyB s l)) (bodyB s l) = (s, l, true) := by
  obtain ⟨e1, e2, e3, e4, e5, e6, e7⟩ := encF_ok h
  have hall := List.all_eq_true.1 e4
  obtain ⟨a1, a2, a3⟩ := numRest_num (n := s) (by omega) (numN l.length ++ (l.map opB).flatten)
  obtain ⟨b1, b2, b3⟩ := numRest_num (n := l.length) (by omega) (l.map opB).flatten
  have hb : bodyB s l = numN s ++ (numN l.length ++ (l.map opB).flatten) := by unfold bodyB; rw [List.append_assoc]
  have c1 : hdSeq (bodyB s l) = s := by unfold hdSeq; rw [hb, a3]; rfl
  have c2 : hdMany (bodyB s l) = l.length := by unfold hdMany; rw [hb, a1, b3]; rfl
  have c3 : hdL (bodyB s l) = (l.map opB).flatten := by unfold hdL; rw [hb, a1, b1]
  have c4 : hdB (bodyB s l) = false := by unfold hdB; rw [hb, a1, a2, b2]
  have c5 : prOps (bodyB s l) = (l, false) := by
    unfold prOps
    rw [c4, c2, c3, if_neg (by decide)]
    exact rdOps_flat l _ hall (by omega)
  unfold rdRes
  rw [c5, c1, if_neg (by simp)]
  simp [h, e1]
def chainOk : Nat → List Bat → Prop
  | _, [] => True
  | nx, x :: l => (0 < nx → x.1 = nx) ∧ (encF x.1 x.2).2 = 0 ∧ chainOk (x.1 + x.2.length) l
def lastNx : Nat → List Bat → Nat
  | nx, [] => nx
  | _, x :: l => lastNx (x.1 + x.2.length) l
def batB (x : Bat) : List Int := frameF 66 (bodyB x.1 x.2)
def batsB (l : List Bat) : List Int := (l.map batB).flatten
theorem frameF_len (k : Int) (l : List Int) : (frameF k l).length = (numN l.length).length + 5 + l.length := by unfold frameF headF; simp [le4_len]; omega
/-- batches that are whole are read; then what stands behind -/
theorem rep_bats : ∀ (l : List Bat) (f nx : Nat) (r : List Int), chainOk nx l → repF (f + l.length) (batsB l ++ r) nx = (l ++ (repF f r (lastNx nx l)).1, (batsB l).length + (repF f r (lastNx nx l)).2.1, (repF f r (lastNx nx l)).2.2)
  | [], f, nx, r, _ => by simp [batsB, lastNx]
  | x :: l, f, nx, r, h => by
    obtain ⟨h1, h2, h3⟩ := h
    obtain ⟨e1, e2, e3, e4, e5, e6, e7⟩ := encF_ok h2
    have hb : batsB (x :: l) ++ r = frameF 66 (bodyB x.1 x.2) ++ (batsB l ++ r) := by unfold batsB; rw [List.map_cons, List.flatten_cons, List.append_assoc]; rfl
    have ht := takeFrameF_frame (k := 66) (by decide) (bodyB x.1 x.2) (batsB l ++ r) (by omega)
    have hl := frameF_len 66 (bodyB x.1 x.2)
    have hn : (((numN (bodyB x.1 x.2).length).length : Int) + 5 + (bodyB x.1 x.2).length).toNat = (frameF 66 (bodyB x.1 x.2)).length := by omega
    have hne : ¬ frameF 66 (bodyB x.1 x.2) ++ (batsB l ++ r) = [] := by
      intro hh
      have := congrArg List.length hh
      rw [List.length_append, hl] at this
      simp only [List.length_nil] at this
      omega
    rw [hb, List.length_cons, show f + (l.length + 1) = (f + l.length) + 1 by omega, repF, if_neg hne, ht]
    simp only [hn]
    rw [if_neg (by simp), List.take_left' rfl, rd_enc h2, List.drop_left' rfl, if_neg (by simp)]
    simp only
    rw [if_neg (by rintro ⟨k1, k2⟩; exact k2 (h1 k1)), rep_bats l f (x.1 + x.2.length) r h3]
    have hbl : (batsB (x :: l)).length = (frameF 66 (bodyB x.1 x.2)).length + (batsB l).length := by unfold batsB; rw [List.map_cons, List.flatten_cons, List.length_append]; rfl
    rw [hbl]
    simp [lastNx, Nat.add_assoc]
/-- more fuel than bytes turns nothing -/
theorem repF_fuel : ∀ (f g : Nat) (l : List Int) (nx : Nat), Rng l → l.length < f → l.length < g → repF f l nx = repF g l nx
  | 0, _, _, _, _, h, _ => absurd h (by omega)
  | _ + 1, 0, _, _, _, _, h => absurd h (by omega)
  | f + 1, g + 1, l, nx, hr, hf, hg => by
    rw [repF, repF]
    by_cases h0 : l = []
    · rw [if_pos h0, if_pos h0]
    · rw [if_neg h0, if_neg h0]
      by_cases h1 : (takeFrameF l).2.2.2 ≠ 0
      · rw [if_pos h1, if_pos h1]
      · rw [if_neg h1, if_neg h1]
        have h1' : (takeFrameF l).2.2.2 = 0 := by omega
        have hc := takeFrameF_canon hr (k := (takeFrameF l).1) (b := (takeFrameF l).2.1) (n := (takeFrameF l).2.2.1) (by rw [← h1'])
        obtain ⟨-, -, -, c4, c5, -, -⟩ := hc
        have hlt : (l.drop (takeFrameF l).2.2.1.toNat).length < l.length := by
          rw [List.length_drop]; omega
        rw [repF_fuel f g (l.drop (takeFrameF l).2.2.1.toNat) _ (hr.drop _) (by omega) (by omega)]
end Wal
end Go.Proofs.Ytlfelpbcnpjneaa
