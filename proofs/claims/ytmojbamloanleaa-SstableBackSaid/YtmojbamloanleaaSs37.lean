/- sstable: frames of codec, plain: what is read off one; one byte turned (as in codec's own claims). sstable: what a table's bytes tell, plain: no other table begins one, none differs from one in a single byte. sstable: a table that is cut short, or has one byte turned, is none, plain. -/
import Derived.Test.YtmojbamloanleaaCodecTF
import Derived.Test.YtmojbamloanleaaCodecFr
import Derived.Test.YtmojbamloanleaaCodecSm
import Derived.Test.YtmojbamloanleaaCodecRT
import Derived.Test.YtmojbamloanleaaSs25
set_option linter.unusedVariables false
set_option linter.unusedSimpArgs false
namespace Go.Proofs.Ytmojbamloanleaa
open Go.RowKit
namespace Codec
theorem lenF_num {n : Nat} (hn : n ≤ 2097152) (r : List Int) (more : Nat) (h : n + more ≤ r.length) : lenF (numN n ++ r) more = ((n : Int), ((numN n).length : Int), 0) := by
  unfold lenF
  rw [takeN_num (by omega)]
  simp only [List.length_append]
  rw [if_neg (by simp), if_neg (by omega), if_neg (by omega)]
theorem headF_len (k : Int) (l : List Int) : (headF k l).length = (numN l.length).length + 1 := rfl
theorem frameF_rng {k : Int} (hk : 0 ≤ k ∧ k ≤ 255) {l : List Int} (h : Rng l) : Rng (frameF k l) := ((headF_rng hk l).append (le4_rng _)).append h
/-- what lies behind a head of so many bytes -/
theorem takeFrameF_of {k : Int} {S B m : List Int} {n : Nat} (hn : n ≤ 2097152) (hS : S.length = 4) (hB : B.length = n) :
    takeFrameF (k :: numN n ++ S ++ B ++ m) = if S ≠ le4 (sumsF (k :: numN n) B) then (0, [], 0, 13) else (k, B, ((numN n).length : Int) + 5 + n, 0) := by
  have e1 : (k :: numN n ++ S ++ B ++ m).drop 1 = numN n ++ (S ++ B ++ m) := by simp
  have e2 : lenF (numN n ++ (S ++ B ++ m)) 4 = ((n : Int), ((numN n).length : Int), 0) := lenF_num hn _ 4 (by simp; omega)
  have e3 : (k :: numN n ++ S ++ B ++ m).take ((numN n).length + 1) = k :: numN n := by
    rw [List.append_assoc, List.append_assoc]; exact List.take_left' rfl
  have e4 : (k :: numN n ++ S ++ B ++ m).drop ((numN n).length + 1) = S ++ (B ++ m) := by
    rw [List.append_assoc, List.append_assoc]; exact List.drop_left' rfl
  have e5 : (k :: numN n ++ S ++ B ++ m).drop ((numN n).length + 5) = B ++ m := by
    rw [show (numN n).length + 5 = (numN n).length + 1 + 4 from rfl, ← List.drop_drop, e4]; exact List.drop_left' hS
  unfold takeFrameF
  rw [e1, e2, if_neg (by simp), if_neg (by simp)]
  simp only [Int.toNat_natCast]
  rw [e3, e4, e5, List.take_left' hS, List.take_left' hB]
  rfl
theorem takeFrameF_frame {k : Int} (_ : 0 ≤ k ∧ k ≤ 255) (l m : List Int) (hl : l.length ≤ 2097152) :
    takeFrameF (frameF k l ++ m) = (k, l, ((numN l.length).length : Int) + 5 + l.length, 0) := by
  have := takeFrameF_of (k := k) (B := l) (S := le4 (sumsF (headF k l) l)) (m := m) hl rfl rfl
  rw [if_neg (by simp [headF])] at this
  exact this
theorem u32_nat {x : Int} (h : U32 x) : ∃ X : Nat, x = X ∧ X < 2 ^ IntKind.u32.bits := by
  obtain ⟨X, rfl⟩ := Int.eq_ofNat_of_zero_le h.1
  exact ⟨X, rfl, by have : IntKind.u32.bits = 32 := rfl; rw [this]; unfold U32 at h; omega⟩
theorem xor_inj {x y p : Int} (hx : U32 x) (hy : U32 y) (hp : U32 p) (h : bits .xor .u32 x p = bits .xor .u32 y p) : x = y := by
  obtain ⟨X, rfl, hX⟩ := u32_nat hx
  obtain ⟨Y, rfl, hY⟩ := u32_nat hy
  obtain ⟨Q, rfl, hQ⟩ := u32_nat hp
  rw [bits_xor_nat (k := .u32) rfl X Q hX hQ, bits_xor_nat (k := .u32) rfl Y Q hY hQ] at h
  have h1 : X ^^^ Q = Y ^^^ Q := by exact_mod_cast h
  have h2 := congrArg (fun z => z ^^^ Q) h1
  simp only [Nat.xor_assoc, Nat.xor_self, Nat.xor_zero] at h2
  rw [h2]
theorem xor_inj' {x y p : Int} (hx : U32 x) (hy : U32 y) (hp : U32 p) (h : bits .xor .u32 p x = bits .xor .u32 p y) : x = y := by
  have e : ∀ a b : Int, bits .xor .u32 a b = bits .xor .u32 b a := fun a b => by unfold bits; simp only [BitVec.xor_comm]
  rw [e p x, e p y] at h
  exact xor_inj hx hy hp h
theorem poly_high {x : Int} (h : 0 ≤ x ∧ x ≤ 2147483647) : 2147483648 ≤ bits .xor .u32 x 3988292384 := by
  obtain ⟨X, rfl⟩ := Int.eq_ofNat_of_zero_le h.1
  have hb : IntKind.u32.bits = 32 := rfl
  have e := bits_xor_nat (k := .u32) rfl X 3988292384 (by rw [hb]; omega) (by decide)
  have e' : bits .xor .u32 (X : Int) 3988292384 = ((X ^^^ 3988292384 : Nat) : Int) := e
  rw [e']
  have ht : (X ^^^ 3988292384).testBit 31 = true := by
    rw [Nat.testBit_xor, Nat.testBit_lt_two_pow (show X < 2 ^ 31 by omega)]
    decide
  have := Nat.ge_two_pow_of_testBit ht
  omega
theorem stepBit_inj {x y : Int} (hx : U32 x) (hy : U32 y) (h : stepBit x = stepBit y) : x = y := by
  have dx : 0 ≤ x / 2 ∧ x / 2 ≤ 2147483647 := by unfold U32 at hx; omega
  have dy : 0 ≤ y / 2 ∧ y / 2 ≤ 2147483647 := by unfold U32 at hy; omega
  have px := poly_high dx
  have py := poly_high dy
  unfold stepBit at h
  by_cases ex : x % 2 = 1 <;> by_cases ey : y % 2 = 1
  · rw [if_pos ex, if_pos ey] at h
    have := xor_inj (by unfold U32; omega) (by unfold U32; omega) (by unfold U32; decide) h
    omega
  · rw [if_pos ex, if_neg ey] at h; omega
  · rw [if_neg ex, if_pos ey] at h; omega
  · rw [if_neg ex, if_neg ey] at h; omega
theorem steps_inj {x y : Int} (hx : U32 x) (hy : U32 y) : ∀ k, steps k x = steps k y → x = y
  | 0, h => h
  | k + 1, h => steps_inj hx hy k (stepBit_inj (steps_rng hx k) (steps_rng hy k) h)
theorem U32.byte {x : Int} (h : 0 ≤ x ∧ x ≤ 255) : U32 x := by unfold U32; omega
/-- the register is told apart by where it began -/
theorem regF_inj : ∀ {l : List Int} {x y : Int}, Rng l → U32 x → U32 y → regF x l = regF y l → x = y
  | [], _, _, _, _, _, h => h
  | c :: l, x, y, hr, hx, hy, h => by
    have hc := U32.byte (hr c (by simp))
    have e : ∀ z, regF z (c :: l) = regF (steps 8 (bits .xor .u32 z c)) l := fun _ => rfl
    rw [e, e] at h
    have h1 := regF_inj (l := l) (fun z hz => hr z (by simp [hz])) (steps_rng (bits_u32_rng _ _ _) 8) (steps_rng (bits_u32_rng _ _ _) 8) h
    exact xor_inj hx hy hc (steps_inj (bits_u32_rng _ _ _) (bits_u32_rng _ _ _) 8 h1)
theorem regF_app (c : Int) (l m : List Int) : regF c (l ++ m) = regF (regF c l) m := by unfold regF; rw [List.foldl_append]
/-- one byte turned turns the register -/
theorem regF_set {l : List Int} {c x : Int} {k : Nat} (hr : Rng l) (hx : 0 ≤ x ∧ x ≤ 255) (hk : k < l.length) (hc : U32 c) (h : regF c (l.set k x) = regF c l) : l[k]? = some x := by
  have e1 : l = l.take k ++ l[k] :: l.drop (k + 1) := by
    rw [← List.drop_eq_getElem_cons hk, List.take_append_drop]
  have e2 : l.set k x = l.take k ++ x :: l.drop (k + 1) := List.set_eq_take_append_cons_drop.trans (if_pos hk)
  have hlk := hr _ (List.getElem_mem hk)
  have e3 : regF c l = regF c (l.take k ++ l[k] :: l.drop (k + 1)) := by rw [← e1]
  rw [e2, e3, regF_app, regF_app] at h
  have e : ∀ z y m, regF z (y :: m) = regF (steps 8 (bits .xor .u32 z y)) m := fun _ _ _ => rfl
  rw [e, e] at h
  have h1 := regF_inj (hr.drop _) (steps_rng (bits_u32_rng _ _ _) 8) (steps_rng (bits_u32_rng _ _ _) 8) h
  have h2 := steps_inj (bits_u32_rng _ _ _) (bits_u32_rng _ _ _) 8 h1
  have h3 := xor_inj' (U32.byte hx) (U32.byte hlk) (regF_rng hc _) h2
  rw [List.getElem?_eq_getElem hk, h3]
theorem sumsF_set {a l : List Int} {x : Int} {k : Nat} (hr : Rng l) (hx : 0 ≤ x ∧ x ≤ 255) (hk : k < l.length) (h : sumsF a (l.set k x) = sumsF a l) : l[k]? = some x := by
  have h0 : U32 4294967295 := by unfold U32; decide
  exact regF_set hr hx hk (regF_rng h0 a) (xor_inj (regF_rng (regF_rng h0 a) _) (regF_rng (regF_rng h0 a) _) h0 h)
theorem le4_inj {c d : Int} (hc : U32 c) (hd : U32 d) (h : le4 c = le4 d) : c = d := by
  unfold le4 at h
  simp only [List.cons.injEq, and_true] at h
  obtain ⟨h1, h2, h3, h4⟩ := h
  unfold U32 at hc hd
  omega
/-- a byte turned is another -/
theorem turn_ne {x y : Int} (hx : 0 ≤ x ∧ x ≤ 255) (hy : 0 ≤ y ∧ y ≤ 255) (h0 : y ≠ 0) : bits .xor .u8 x y ≠ x := by
  obtain ⟨X, rfl⟩ := Int.eq_ofNat_of_zero_le hx.1
  obtain ⟨Y, rfl⟩ := Int.eq_ofNat_of_zero_le hy.1
  have hb : IntKind.u8.bits = 8 := rfl
  rw [bits_xor_nat (k := .u8) rfl X Y (by rw [hb]; omega) (by rw [hb]; omega)]
  intro h
  have h1 : X ^^^ Y = X := by exact_mod_cast h
  have h2 := congrArg (fun z => X ^^^ z) h1
  simp only [← Nat.xor_assoc, Nat.xor_self, Nat.zero_xor] at h2
  omega
theorem turn_rng (x y : Int) : 0 ≤ bits .xor .u8 x y ∧ bits .xor .u8 x y ≤ 255 := by
  unfold bits
  simp [IntKind.wrap, IntKind.bits, IntKind.signed]; omega
/-- a frame with one byte of its sum or its body turned -/
theorem turned_spoilt {kd : Int} {l : List Int} (hr : Rng l) (hl : l.length ≤ 2097152) {r : Nat} {x y : Int} (hlt : r < l.length + 4) (hx : 0 ≤ x ∧ x ≤ 255)
    (hy : (frameF kd l)[(numN l.length).length + 1 + r]? = some y) (hne : x ≠ y) : takeFrameF ((frameF kd l).set ((numN l.length).length + 1 + r) x) = (0, [], 0, 13) := by
  have hA : (headF kd l).length = (numN l.length).length + 1 := rfl
  have hS := le4_len (sumsF (headF kd l) l)
  unfold frameF at hy ⊢
  by_cases h4 : r < 4
  · have e1 : (headF kd l ++ le4 (sumsF (headF kd l) l) ++ l).set ((numN l.length).length + 1 + r) x = headF kd l ++ (le4 (sumsF (headF kd l) l)).set r x ++ l := by
      rw [List.append_assoc, List.set_append, if_neg (by omega), List.set_append, if_pos (by rw [hS]; omega), ← List.append_assoc]
      congr 3
      omega
    have e2 : (headF kd l ++ le4 (sumsF (headF kd l) l) ++ l)[(numN l.length).length + 1 + r]? = (le4 (sumsF (headF kd l) l))[r]? := by
      rw [List.append_assoc, List.getElem?_append_right (by omega), List.getElem?_append_left (by rw [hS]; omega)]
      congr 1
      omega
    rw [e2] at hy
    rw [e1]
    have h := takeFrameF_of (k := kd) (S := (le4 (sumsF (headF kd l) l)).set r x) (B := l) (m := []) hl (by rw [List.length_set]; rfl) rfl
    rw [List.append_nil] at h
    refine h.trans (if_pos fun he => hne ?_)
    have h5 := congrArg (fun z => z[r]?) he
    have h6 : ((le4 (sumsF (headF kd l) l)).set r x)[r]? = some x := by rw [List.getElem?_set_self]; rw [hS]; exact h4
    have h7 : (le4 (sumsF (kd :: numN l.length) l))[r]? = some y := hy
    simp only [h6, h7] at h5
    exact Option.some.inj h5
  · obtain ⟨q, rfl⟩ : ∃ q, r = 4 + q := ⟨r - 4, by omega⟩
    have e1 : (headF kd l ++ le4 (sumsF (headF kd l) l) ++ l).set ((numN l.length).length + 1 + (4 + q)) x = headF kd l ++ le4 (sumsF (headF kd l) l) ++ l.set q x := by
      rw [List.set_append, if_neg (by rw [List.length_append]; omega)]
      congr 2
      rw [List.length_append]; omega
    have e2 : (headF kd l ++ le4 (sumsF (headF kd l) l) ++ l)[(numN l.length).length + 1 + (4 + q)]? = l[q]? := by
      rw [List.getElem?_append_right (by rw [List.length_append]; omega)]
      congr 1
      rw [List.length_append]; omega
    rw [e2] at hy
    rw [e1]
    have h := takeFrameF_of (k := kd) (S := le4 (sumsF (headF kd l) l)) (B := l.set q x) (m := []) hl rfl (List.length_set ..)
    rw [List.append_nil] at h
    refine h.trans (if_pos fun he => hne ?_)
    have h5 := le4_inj (sumsF_rng _ _) (sumsF_rng _ _) he
    have h6 := sumsF_set (a := headF kd l) (x := x) (k := q) hr hx (by omega) h5.symm
    rw [hy] at h6
    exact (Option.some.inj h6).symm
end Codec
end Go.Proofs.Ytmojbamloanleaa
namespace Go.Proofs.Ytmojbamloanleaa
open Go.RowKit
namespace Ss
open Mt Codec
theorem frame_cancel {k k' : Int} {x x' r r' : List Int} (hk : 0 ≤ k ∧ k ≤ 255) (hk' : 0 ≤ k' ∧ k' ≤ 255) (hx : x.length ≤ 2097152) (hx' : x'.length ≤ 2097152) (h : frameF k x ++ r = frameF k' x' ++ r') : k = k' ∧ x = x' ∧ r = r' := by
  have h1 := takeFrameF_frame hk x r hx
  rw [h, takeFrameF_frame hk' x' r' hx'] at h1
  simp only [Prod.mk.injEq] at h1
  obtain ⟨rfl, rfl, -⟩ := h1
  exact ⟨rfl, rfl, List.append_cancel_left h⟩
theorem numN_cancel {a b : Nat} {r s : List Int} (ha : a < 18446744073709551616) (hb : b < 18446744073709551616) (h : numN a ++ r = numN b ++ s) : a = b ∧ r = s := by
  have h1 := takeN_num ha r
  rw [h, takeN_num hb s] at h1
  simp only [Prod.mk.injEq] at h1
  have h2 : a = b := by omega
  subst h2
  exact ⟨rfl, List.append_cancel_left h⟩
theorem frameF_length (k : Int) (x : List Int) : (frameF k x).length = (numN x.length).length + 5 + x.length := by
  simp [frameF, headF, le4_len]; omega
theorem numN_mono : ∀ (b a : Nat), a ≤ b → (numN a).length ≤ (numN b).length := by
  intro b
  induction b using Nat.strongRecOn with
  | ind b ih =>
    intro a hab
    by_cases h1 : b < 128
    · rw [numN_lo h1, numN_lo (by omega)]
      simp
    · rw [numN_hi (by omega : 128 ≤ b)]
      by_cases h2 : a < 128
      · rw [numN_lo h2]; simp
      · rw [numN_hi (by omega : 128 ≤ a), List.length_cons, List.length_cons]
        have := ih (b / 128) (by omega) (a / 128) (by omega)
        omega
theorem frame_len_inj {k k' : Int} {x y : List Int} (h : (frameF k x).length = (frameF k' y).length) : x.length = y.length := by
  rw [frameF_length, frameF_length] at h
  rcases Nat.lt_trichotomy x.length y.length with h1 | h1 | h1
  · have := numN_mono _ _ (Nat.le_of_lt h1); omega
  · exact h1
  · have := numN_mono _ _ (Nat.le_of_lt h1); omega
/-- no frame as long differs from a frame in one byte -/
theorem frame_set {kd : Int} {x y : List Int} {k : Nat} {v o : Int} (hkd : 0 ≤ kd ∧ kd ≤ 255) (hr : Rng x) (hx : x.length ≤ 2097152) (hv : 0 ≤ v ∧ v ≤ 255) (ho : (frameF kd x)[k]? = some o) (hne : v ≠ o) (h : (frameF kd x).set k v = frameF kd y) : False := by
  have hk := (List.getElem?_eq_some_iff.1 ho).1
  have hl : x.length = y.length := frame_len_inj (k := kd) (k' := kd) (by rw [← h, List.length_set])
  by_cases h1 : k < (numN x.length).length + 1
  · have h2 : (frameF kd y)[k]? = some v := by rw [← h, List.getElem?_set_self hk]
    have e : ∀ z : List Int, z.length = x.length → (frameF kd z)[k]? = (kd :: numN x.length)[k]? := fun z hz => by
      unfold frameF headF
      rw [List.append_assoc, List.getElem?_append_left (by rw [List.length_cons, hz]; omega), hz]
    rw [e y hl.symm] at h2
    rw [e x rfl, h2] at ho
    exact hne (Option.some.inj ho)
  · obtain ⟨r, rfl⟩ : ∃ r, k = (numN x.length).length + 1 + r := ⟨k - ((numN x.length).length + 1), by omega⟩
    have h2 := turned_spoilt (kd := kd) hr hx (r := r) (x := v) (y := o) (by rw [frameF_length] at hk; omega) hv ho hne
    have h3 := takeFrameF_frame hkd y [] (by omega)
    rw [List.append_nil, ← h, h2] at h3
    simp at h3
/-- the frames of blocks -/
def frs (Bs : List (List Int)) : List Int := Bs.flatMap (frameF 68)
theorem frs_cons (x : List Int) (Bs : List (List Int)) : frs (x :: Bs) = frameF 68 x ++ frs Bs := rfl
/-- what a table's bytes are made of -/
structure Tab (T : List Int) (Bs : List (List Int)) (fb ib tl : List Int) : Prop where
  eq : T = frs Bs ++ (frameF 70 fb ++ (frameF 73 ib ++ tl))
  hB : ∀ x ∈ Bs, x.length ≤ 2097152
  hf : fb.length ≤ 2097152
  hi : ib.length ≤ 2097152
  ht : tl.length = 40
theorem frs_prefix : ∀ (Bs Cs : List (List Int)) (fb gb r s : List Int), (∀ x ∈ Bs, x.length ≤ 2097152) → (∀ x ∈ Cs, x.length ≤ 2097152) → fb.length ≤ 2097152 → gb.length ≤ 2097152 →
    frs Bs ++ (frameF 70 fb ++ r) = frs Cs ++ (frameF 70 gb ++ s) → Bs = Cs ∧ fb = gb ∧ r = s
  | [], [], fb, gb, r, s, _, _, h3, h4, h => by
    obtain ⟨-, h1, h2⟩ := frame_cancel (by decide) (by decide) h3 h4 (show frameF 70 fb ++ r = frameF 70 gb ++ s from h)
    exact ⟨rfl, h1, h2⟩
  | [], y :: Cs, fb, gb, r, s, _, h2, h3, h4, h => by
    have h' : frameF 70 fb ++ r = frameF 68 y ++ (frs Cs ++ (frameF 70 gb ++ s)) := by rw [frs_cons, List.append_assoc] at h; exact h
    have := (frame_cancel (by decide) (by decide) h3 (h2 y (by simp)) h').1
    exact absurd this (by decide)
  | x :: Bs, [], fb, gb, r, s, h1, _, h3, h4, h => by
    have h' : frameF 68 x ++ (frs Bs ++ (frameF 70 fb ++ r)) = frameF 70 gb ++ s := by rw [frs_cons, List.append_assoc] at h; exact h
    have := (frame_cancel (by decide) (by decide) (h1 x (by simp)) h4 h').1
    exact absurd this (by decide)
  | x :: Bs, y :: Cs, fb, gb, r, s, h1, h2, h3, h4, h => by
    rw [frs_cons, frs_cons, List.append_assoc, List.append_assoc] at h
    obtain ⟨-, e1, e2⟩ := frame_cancel (by decide) (by decide) (h1 x (by simp)) (h2 y (by simp)) h
    obtain ⟨e3, e4, e5⟩ := frs_prefix Bs Cs fb gb r s (fun z hz => h1 z (by simp [hz])) (fun z hz => h2 z (by simp [hz])) h3 h4 e2
    exact ⟨by rw [e1, e3], e4, e5⟩
/-- no table begins another -/
theorem Tab.prefix {T U z : List Int} {Bs Cs : List (List Int)} {fb gb ib jb tl ul : List Int} (h : Tab T Bs fb ib tl) (k : Tab U Cs gb jb ul) (e : T = U ++ z) : z = [] := by
  have h1 := h.eq
  rw [e, k.eq] at h1
  simp only [List.append_assoc] at h1
  obtain ⟨-, -, h2⟩ := frs_prefix Cs Bs gb fb _ _ k.hB h.hB k.hf h.hf h1
  obtain ⟨-, -, h3⟩ := frame_cancel (by decide) (by decide) k.hi h.hi h2
  have h4 := congrArg List.length h3
  rw [List.length_append, h.ht, k.ht] at h4
  exact List.eq_nil_of_length_eq_zero (by omega)
/-- blocks as long, one byte apart: no -/
theorem frs_set : ∀ (Bs Cs : List (List Int)) (k : Nat) (v o : Int), (∀ x ∈ Bs, x.length ≤ 2097152 ∧ Rng x) → Bs.map (fun x => (frameF 68 x).length) = Cs.map (fun x => (frameF 68 x).length) → 0 ≤ v ∧ v ≤ 255 → (frs Bs)[k]? = some o → v ≠ o → (frs Bs).set k v = frs Cs → False
  | [], _, k, v, o, _, _, _, ho, _, _ => by simp [frs] at ho
  | x :: Bs, [], k, v, o, _, hl, _, _, _, _ => by simp at hl
  | x :: Bs, y :: Cs, k, v, o, hB, hl, hv, ho, hne, h => by
    simp only [List.map_cons, List.cons.injEq] at hl
    obtain ⟨l1, l2⟩ := hl
    rw [frs_cons] at ho h
    rw [frs_cons] at h
    rw [List.set_append] at h
    by_cases hk : k < (frameF 68 x).length
    · rw [if_pos hk] at h
      obtain ⟨e1, -⟩ := List.append_inj h (by rw [List.length_set, l1])
      rw [List.getElem?_append_left hk] at ho
      exact frame_set (by decide) (hB x (by simp)).2 (hB x (by simp)).1 hv ho hne e1
    · rw [if_neg hk] at h
      obtain ⟨-, e2⟩ := List.append_inj h l1
      rw [List.getElem?_append_right (by omega)] at ho
      exact frs_set Bs Cs _ v o (fun z hz => hB z (by simp [hz])) l2 hv ho hne e2
theorem frs_length (Bs Cs : List (List Int)) (h : Bs.map (fun x => (frameF 68 x).length) = Cs.map (fun x => (frameF 68 x).length)) : (frs Bs).length = (frs Cs).length := by
  unfold frs
  rw [List.length_flatMap, List.length_flatMap]
  have e : ∀ L : List (List Int), (L.map fun a => (frameF 68 a).length) = L.map (fun x => (frameF 68 x).length) := fun _ => rfl
  rw [h]
theorem Tab.rng {T : List Int} {Bs : List (List Int)} {fb ib tl : List Int} (h : Tab T Bs fb ib tl) (hr : Rng T) : (∀ x ∈ Bs, x.length ≤ 2097152 ∧ Rng x) ∧ Rng fb ∧ Rng ib ∧ Rng tl := by
  have fr : ∀ (k : Int) (x : List Int) (y : Int), y ∈ x → y ∈ frameF k x := fun k x y hy => by unfold frameF; exact List.mem_append_right _ hy
  rw [h.eq] at hr
  refine ⟨fun x hx => ⟨h.hB x hx, fun y hy => hr y (List.mem_append_left _ (List.mem_flatMap.2 ⟨x, hx, fr _ x y hy⟩))⟩, fun y hy => hr y (List.mem_append_right _ (List.mem_append_left _ (fr _ _ y hy))), fun y hy => hr y (List.mem_append_right _ (List.mem_append_right _ (List.mem_append_left _ (fr _ _ y hy)))), fun y hy => hr y (List.mem_append_right _ (List.mem_append_right _ (List.mem_append_right _ hy)))⟩
/-- no table as long differs from another in one byte, where the ends tell the places and the index tells the blocks -/
theorem Tab.set {T U : List Int} {Bs Cs : List (List Int)} {fb gb ib jb tl ul : List Int} {k : Nat} {v o : Int} (h : Tab T Bs fb ib tl) (hR : Rng T) (c : Tab U Cs gb jb ul) (hv : 0 ≤ v ∧ v ≤ 255) (ho : T[k]? = some o) (hne : v ≠ o) (e : T.set k v = U)
    (h1 : ∀ j, tl[j]? = some o → tl.set j v = ul → False) (h2 : tl = ul → (frs Bs).length = (frs Cs).length ∧ (frs Bs ++ frameF 70 fb).length = (frs Cs ++ frameF 70 gb).length) (h3 : ib = jb → Bs.map (fun x => (frameF 68 x).length) = Cs.map (fun x => (frameF 68 x).length)) : False := by
  obtain ⟨rB, rf, ri, -⟩ := h.rng hR
  have hle : T.length = U.length := by rw [← e, List.length_set]
  obtain ⟨A, hA⟩ : ∃ A, frs Bs ++ (frameF 70 fb ++ frameF 73 ib) = A := ⟨_, rfl⟩
  obtain ⟨B, hB⟩ : ∃ B, frs Cs ++ (frameF 70 gb ++ frameF 73 jb) = B := ⟨_, rfl⟩
  have hT : T = A ++ tl := by rw [h.eq, ← hA]; simp only [List.append_assoc]
  have hU : U = B ++ ul := by rw [c.eq, ← hB]; simp only [List.append_assoc]
  have hAB : A.length = B.length := by
    rw [hT, hU, List.length_append, List.length_append, h.ht, c.ht] at hle
    omega
  rw [hT, hU, List.set_append] at e
  rw [hT] at ho
  by_cases hk : k < A.length
  · rw [if_pos hk] at e
    obtain ⟨e1, e2⟩ := List.append_inj e (by rw [List.length_set]; exact hAB)
    obtain ⟨l1, l2⟩ := h2 e2
    rw [List.getElem?_append_left hk] at ho
    rw [← hA] at ho e1 hk hAB
    rw [← hB] at e1 hAB
    rw [List.length_append, List.length_append] at l2
    rw [List.set_append] at e1
    by_cases k1 : k < (frs Bs).length
    · rw [if_pos k1] at e1
      obtain ⟨e3, e4⟩ := List.append_inj e1 (by rw [List.length_set]; exact l1)
      obtain ⟨e5, e6⟩ := List.append_inj e4 (by omega)
      have e7 : ib = jb := (frame_cancel (k := 73) (k' := 73) (r := []) (r' := []) (by decide) (by decide) h.hi c.hi (by rw [e6])).2.1
      rw [List.getElem?_append_left k1] at ho
      exact frs_set Bs Cs k v o rB (h3 e7) hv ho hne e3
    · rw [if_neg k1] at e1
      obtain ⟨-, e4⟩ := List.append_inj e1 l1
      rw [List.getElem?_append_right (by omega)] at ho
      rw [List.set_append] at e4
      by_cases k2 : k - (frs Bs).length < (frameF 70 fb).length
      · rw [if_pos k2] at e4
        obtain ⟨e5, -⟩ := List.append_inj e4 (by rw [List.length_set]; omega)
        rw [List.getElem?_append_left k2] at ho
        exact frame_set (by decide) rf h.hf hv ho hne e5
      · rw [if_neg k2] at e4
        obtain ⟨-, e5⟩ := List.append_inj e4 (by omega)
        rw [List.getElem?_append_right (by omega)] at ho
        exact frame_set (by decide) ri h.hi hv ho hne e5
  · rw [if_neg hk] at e
    obtain ⟨-, e2⟩ := List.append_inj e hAB
    rw [List.getElem?_append_right (by omega)] at ho
    exact h1 _ ho e2
end Ss
end Go.Proofs.Ytmojbamloanleaa
namespace Go.Proofs.Ytmojbamloanleaa
open Go.RowKit
namespace Ss
open Mt Codec
theorem doneF_fst : ∀ (D : List (List En)) (p : List Int × List Int), (D.foldl blkF p).1 = p.1 ++ frs (D.map fun b => (bodyF b).1)
  | [], p => by simp [frs]
  | b :: D, p => by
    rw [List.foldl_cons, doneF_fst D, List.map_cons, frs_cons, ← List.append_assoc]
    rfl
/-- what the index says of blocks that stand from a place on -/
def idxs : Nat → List (List En) → List Int
  | _, [] => []
  | p, b :: D => numN p ++ (numN (frameF 68 (bodyF b).1).length ++ (numN b.length ++ (numN (bodyF b).2.length ++ ((bodyF b).2 ++ idxs (p + (frameF 68 (bodyF b).1).length) D))))
theorem doneF_snd : ∀ (D : List (List En)) (p : List Int × List Int), (D.foldl blkF p).2 = p.2 ++ idxs p.1.length D
  | [], p => by simp [idxs]
  | b :: D, p => by
    rw [List.foldl_cons, doneF_snd D]
    have e : idxs p.1.length (b :: D) = numN p.1.length ++ (numN (frameF 68 (bodyF b).1).length ++ (numN b.length ++ (numN (bodyF b).2.length ++ ((bodyF b).2 ++ idxs (p.1.length + (frameF 68 (bodyF b).1).length) D)))) := rfl
    rw [e]
    unfold blkF
    simp only [List.length_append, List.append_assoc]
def SmB (b : List En) : Prop := (frameF 68 (bodyF b).1).length ≤ 70000 ∧ (bodyF b).2.length ≤ 256 ∧ b.length ≤ 65536
theorem idxs_inj : ∀ (D E : List (List En)) (p q : Nat), (∀ b ∈ D, SmB b) → (∀ b ∈ E, SmB b) → D.length = E.length → p + D.length * 70000 ≤ 18446744073709551615 → q + E.length * 70000 ≤ 18446744073709551615 → idxs p D = idxs q E →
    D.map (fun b => (frameF 68 (bodyF b).1).length) = E.map (fun b => (frameF 68 (bodyF b).1).length)
  | [], [], _, _, _, _, _, _, _, _ => rfl
  | [], _ :: _, _, _, _, _, h, _, _, _ => by simp at h
  | _ :: _, [], _, _, _, _, h, _, _, _ => by simp at h
  | b :: D, c :: E, p, q, hD, hE, hl, hp, hq, h => by
    unfold idxs at h
    obtain ⟨b1, b2, b3⟩ := hD b (by simp)
    obtain ⟨c1, c2, c3⟩ := hE c (by simp)
    simp only [List.length_cons] at hl hp hq
    obtain ⟨rfl, h⟩ := numN_cancel (by omega) (by omega) h
    obtain ⟨e1, h⟩ := numN_cancel (by omega) (by omega) h
    obtain ⟨-, h⟩ := numN_cancel (by omega) (by omega) h
    obtain ⟨e2, h⟩ := numN_cancel (by omega) (by omega) h
    obtain ⟨-, h⟩ := List.append_inj h e2
    have := idxs_inj D E _ _ (fun z hz => hD z (by simp [hz])) (fun z hz => hE z (by simp [hz])) (by omega) (by omega) (by omega) h
    rw [List.map_cons, List.map_cons, e1, this]
theorem lowF_cons (d : Int) : ∀ (r : List Int), lowF (d :: r) = d * 256 ^ r.length + lowF r := by
  have h : ∀ (r : List Int) (n : Int), r.foldl (fun n c => n * 256 + c) n = n * 256 ^ r.length + r.foldl (fun n c => n * 256 + c) 0 := by
    intro r
    induction r with
    | nil => intro n; simp
    | cons c r ih =>
      intro n
      rw [List.foldl_cons, List.foldl_cons, ih (n * 256 + c), ih (0 * 256 + c), List.length_cons, Int.pow_succ]
      rw [Int.add_mul, Int.zero_mul, Int.zero_add, Int.add_assoc, Int.mul_assoc, Int.mul_comm 256 (256 ^ r.length)]
  intro r
  unfold lowF
  rw [List.foldl_cons, h r (0 * 256 + d), Int.zero_mul, Int.zero_add]
theorem lowF_hiB (n : Nat) : ∀ k, lowF (hiB n k) = ((n % 256 ^ k : Nat) : Int)
  | 0 => by simp [hiB, lowF, Nat.mod_one]
  | k + 1 => by
    rw [hiB, lowF_cons, hiB_len, lowF_hiB n k]
    have h1 : n % 256 ^ (k + 1) = (n / 256 ^ k) % 256 * 256 ^ k + n % 256 ^ k := by
      rw [Nat.pow_succ, Nat.mod_mul, Nat.mul_comm, Nat.add_comm]
    rw [h1]
    simp
theorem hiB_inj {a b k : Nat} (ha : a < 256 ^ k) (hb : b < 256 ^ k) (h : hiB a k = hiB b k) : a = b := by
  have h1 := lowF_hiB a k
  rw [h, lowF_hiB b k, Nat.mod_eq_of_lt ha, Nat.mod_eq_of_lt hb] at h1
  omega
theorem footT_len (l : List En) (D : List (List En)) (bn pn : Nat) : (footT l D bn pn).length = 36 := by simp [footT, hiB_len]
theorem code_facts {l : List En} {bb pk : Int} (h : codeF l bb pk = 0) : (64 ≤ bb ∧ bb ≤ 65536 ∧ 1 ≤ pk ∧ pk ≤ 30) ∧ (1 ≤ l.length ∧ l.length ≤ 65536) ∧ chkF [] l = 0 ∧ (idxF (blksF l bb)).length ≤ 2097152 ∧ (tableF l (blksF l bb) bb.toNat pk.toNat).length ≤ 4194304 := by
  unfold codeF at h
  by_cases h1 : bb < 64 ∨ 65536 < bb ∨ pk < 1 ∨ 30 < pk
  · rw [if_pos h1] at h; cases h
  rw [if_neg h1] at h
  by_cases h2 : l.length < 1 ∨ 65536 < l.length
  · rw [if_pos h2] at h; cases h
  rw [if_neg h2] at h
  by_cases h3 : chkF [] l ≠ 0
  · rw [if_pos h3] at h; exact absurd h h3
  rw [if_neg h3] at h
  by_cases h4 : 4194304 < valF l ∨ 2097152 < (idxF (blksF l bb)).length ∨ 4194304 < (tableF l (blksF l bb) bb.toNat pk.toNat).length
  · rw [if_pos h4] at h; cases h
  rw [not_or, not_or] at h4
  exact ⟨by omega, by omega, by simpa using h3, by omega, by omega⟩
theorem tab_sm {l : List En} {bb pk : Int} (h : codeF l bb pk = 0) : ∀ b ∈ blksF l bb, SmB b ∧ (bodyF b).1.length ≤ 66000 := by
  obtain ⟨⟨q1, q2, q3, q4⟩, ⟨l1, l2⟩, hc, -, -⟩ := code_facts h
  have hm := chk_may [] l hc
  have hall := part_all bb q2 l hm
  have hfl : (blksF l bb).flatten = l := part_flat bb l
  intro b hb
  have h1 := hall b hb
  have h2 := last_le b (fun x hx => hm x (by rw [← hfl]; exact List.mem_flatten.2 ⟨b, hb, hx⟩))
  have h3 := (List.sublist_flatten_of_mem hb).length_le
  rw [hfl] at h3
  have h4 := numN_len10 (n := (bodyF b).1.length) (by omega)
  exact ⟨⟨by rw [frameF_length]; omega, h2, by omega⟩, h1⟩
theorem tab_nb {l : List En} {bb pk : Int} (h : codeF l bb pk = 0) : (blksF l bb).length ≤ 65537 := by
  obtain ⟨⟨q1, q2, q3, q4⟩, ⟨l1, l2⟩, hc, -, -⟩ := code_facts h
  exact (blks_bounds bb q2 l (chk_may [] l hc) l2).1
theorem tab_eq {l : List En} {bb pk : Int} (h : codeF l bb pk = 0) : tabF l bb pk = tableF l (blksF l bb) bb.toNat pk.toNat := by
  unfold tabF
  rw [if_pos h]
/-- a table is made of its blocks' frames, its filter's, its index's, and its end -/
theorem tab_shape {l : List En} {bb pk : Int} (h : codeF l bb pk = 0) : Tab (tabF l bb pk) ((blksF l bb).map fun b => (bodyF b).1) (Bloom.makeF (keysF l) pk.toNat) (idxF (blksF l bb)) (footT l (blksF l bb) bb.toNat pk.toNat ++ le4 (sumF (footT l (blksF l bb) bb.toNat pk.toNat))) := by
  obtain ⟨-, -, -, h4, h5⟩ := code_facts h
  refine ⟨?_, fun x hx => ?_, ?_, h4, by rw [List.length_append, footT_len, le4_len]⟩
  · rw [tab_eq h]
    unfold tableF out2 out1
    have e : (doneF (blksF l bb)).1 = frs ((blksF l bb).map fun b => (bodyF b).1) := by
      unfold doneF
      rw [doneF_fst]
      rfl
    rw [e]
    simp only [List.append_assoc]
  · obtain ⟨b, hb, rfl⟩ := List.mem_map.1 hx
    have := (tab_sm h b hb).2
    omega
  · have e : (Bloom.makeF (keysF l) pk.toNat).length = 1 + 8 * (Bloom.wordsF (keysF l).length pk.toNat).toNat := by
      unfold Bloom.makeF
      rw [Bloom.fill_len]
      simp
    have hk : (keysF l).length ≤ l.length := by have := keys_le l []; simp only [List.length_nil] at this; unfold keysF; omega
    obtain ⟨⟨q1, q2, q3, q4⟩, ⟨l1, l2⟩, -⟩ := code_facts h
    have hw : Bloom.wordsF (keysF l).length pk.toNat ≤ 30721 := by
      unfold Bloom.wordsF
      have h1 : (((keysF l).length : Int) * (pk.toNat : Int)) ≤ 65536 * 30 := by
        have h2 : (keysF l).length * pk.toNat ≤ 65536 * 30 := Nat.mul_le_mul (by omega) (by omega)
        rw [← Int.natCast_mul]
        omega
      omega
    rw [e]
    omega
theorem foot_inj {l m : List En} {D E : List (List En)} {bn pn bm pm : Nat} (h : footT l D bn pn ++ le4 (sumF (footT l D bn pn)) = footT m E bm pm ++ le4 (sumF (footT m E bm pm)))
    (h1 : (out1 l D pn).length < 256 ^ 8) (h2 : (out1 m E pm).length < 256 ^ 8) : (doneF D).1.length = (doneF E).1.length ∧ (out1 l D pn).length = (out1 m E pm).length := by
  obtain ⟨h3, -⟩ := List.append_inj h (by rw [footT_len, footT_len])
  unfold footT at h3
  simp only [List.append_assoc] at h3
  obtain ⟨e1, h3⟩ := List.append_inj h3 (by rw [hiB_len, hiB_len])
  obtain ⟨e2, -⟩ := List.append_inj h3 (by rw [hiB_len, hiB_len])
  have d1 : (doneF D).1.length ≤ (out1 l D pn).length := by unfold out1; rw [List.length_append]; omega
  have d2 : (doneF E).1.length ≤ (out1 m E pm).length := by unfold out1; rw [List.length_append]; omega
  exact ⟨hiB_inj (by omega) (by omega) e1, hiB_inj h1 h2 e2⟩
theorem out1_le {l : List En} {bb pk : Int} (h : codeF l bb pk = 0) : (out1 l (blksF l bb) pk.toNat).length < 256 ^ 8 := by
  obtain ⟨-, -, -, -, h5⟩ := code_facts h
  unfold tableF out2 at h5
  simp only [List.length_append] at h5
  omega
theorem frs_done (D : List (List En)) : (doneF D).1 = frs (D.map fun b => (bodyF b).1) := by
  unfold doneF
  rw [doneF_fst]
  rfl
theorem idx_inj {l m : List En} {bb bc pk pm : Int} (h : codeF l bb pk = 0) (k : codeF m bc pm = 0) (e : idxF (blksF l bb) = idxF (blksF m bc)) :
    ((blksF l bb).map fun b => (bodyF b).1).map (fun x => (frameF 68 x).length) = ((blksF m bc).map fun b => (bodyF b).1).map (fun x => (frameF 68 x).length) := by
  have n1 := tab_nb h
  have n2 := tab_nb k
  unfold idxF at e
  obtain ⟨e1, e2⟩ := numN_cancel (by omega) (by omega) e
  unfold doneF at e2
  rw [doneF_snd, doneF_snd] at e2
  rw [List.map_map, List.map_map]
  exact idxs_inj _ _ 0 0 (fun b hb => (tab_sm h b hb).1) (fun b hb => (tab_sm k b hb).1) e1 (by omega) (by omega) e2
theorem open_none {b : List Int} (h : ∀ l bb pk, codeF l bb pk = 0 → tabF l bb pk = b → False) : openF b = none := by
  unfold openF
  by_cases h1 : b.length < 40 ∨ 4194304 < b.length
  · rw [if_pos h1]
  rw [if_neg h1]
  rcases blocksF b.length b 0 with _ | ⟨bs, at_⟩
  · rfl
  · simp only
    rw [if_neg (fun k => h _ _ _ k.1 k.2)]
theorem spoilt_cut {l : List En} {bb pk : Int} (h : codeF l bb pk = 0) {k : Nat} (hk : k < (tabF l bb pk).length) : openF ((tabF l bb pk).take k) = none :=
  open_none fun m bc pm hm e => by
    have h1 := (tab_shape h).prefix (tab_shape hm) (z := (tabF l bb pk).drop k) (by rw [e, List.take_append_drop])
    have h2 := congrArg List.length h1
    rw [List.length_drop] at h2
    simp only [List.length_nil] at h2
    omega
theorem spoilt_set {l : List En} {bb pk : Int} (h : codeF l bb pk = 0) (hR : Rng (tabF l bb pk)) {k : Nat} {v o : Int} (hv : 0 ≤ v ∧ v ≤ 255) (ho : (tabF l bb pk)[k]? = some o) (hne : v ≠ o) : openF ((tabF l bb pk).set k v) = none :=
  open_none fun m bc pm hm e => by
    have hT := tab_shape h
    have hU := tab_shape hm
    have hRT := (hT.rng hR).2.2.2
    refine hT.set hR hU hv ho hne e.symm (fun j hj e1 => ?_) (fun e1 => ?_) (fun e1 => idx_inj h hm e1)
    · have hRf : Rng (footT l (blksF l bb) bb.toNat pk.toNat) := fun y hy => hRT y (List.mem_append_left _ hy)
      rw [List.set_append, footT_len] at e1
      by_cases hj3 : j < 36
      · rw [if_pos hj3] at e1
        obtain ⟨e2, e3⟩ := List.append_inj e1 (by rw [List.length_set, footT_len, footT_len])
        rw [← e2] at e3
        have e4 := le4_inj (sumsF_rng [] _) (sumsF_rng [] _) (show le4 (sumsF [] _) = le4 (sumsF [] _) from e3)
        have e5 := sumsF_set (a := []) (x := v) (k := j) hRf hv (by rw [footT_len]; exact hj3) e4.symm
        rw [List.getElem?_append_left (by rw [footT_len]; exact hj3)] at hj
        rw [e5] at hj
        exact hne (Option.some.inj hj)
      · rw [if_neg hj3] at e1
        obtain ⟨e2, e3⟩ := List.append_inj e1 (by rw [footT_len, footT_len])
        rw [← e2] at e3
        rw [List.getElem?_append_right (by rw [footT_len]; omega), footT_len] at hj
        have hjl := (List.getElem?_eq_some_iff.1 hj).1
        have e4 := congrArg (fun z => z[j - 36]?) e3
        simp only [List.getElem?_set_self hjl] at e4
        rw [hj] at e4
        exact hne (Option.some.inj e4)
    · obtain ⟨f1, f2⟩ := foot_inj e1 (out1_le h) (out1_le hm)
      rw [← frs_done, ← frs_done]
      exact ⟨f1, f2⟩
end Ss
end Go.Proofs.Ytmojbamloanleaa
