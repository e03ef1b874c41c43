/- rowkey in the abstract: rows that are made and written to; plainly: what is read of bytes. -/
import Derived.Test.YtfkemeamimcnjaaDoorRkr3
import Derived.Test.YtfkemeamimcnjaaDoorPmF
namespace Go.Proofs.YtfkemeamimcnjaaDoor
open Go.RowKit
set_option maxRecDepth 100000
namespace PM
/-- a row's cells -/
def cX : List XV → List AV
  | [] => []
  | x :: R => .d (.int .i64 x.ty) :: .d (.bool x.null) :: .d (.int .i64 x.n) :: .d (.str x.s) :: cX R
theorem cX_len : ∀ R : List XV, (cX R).length = R.length * 4
  | [] => rfl
  | x :: R => by
    unfold cX
    simp only [List.length_cons, cX_len R]
    omega
theorem cX_set : ∀ (R : List XV) (i : Nat) (a : Int) (b : Bool) (c : Int) (s : List Int), i < R.length →
    ((((cX R).set (i * 4) (.d (.int .i64 a))).set (i * 4 + 1) (.d (.bool b))).set (i * 4 + 2) (.d (.int .i64 c))).set (i * 4 + 3) (.d (.str s)) = cX (R.set i ⟨a, b, c, s⟩)
  | [], i, a, b, c, s, h => by simp at h
  | x :: R, 0, a, b, c, s, _ => rfl
  | x :: R, i + 1, a, b, c, s, h => by
    have ih := cX_set R i a b c s (by simpa using h)
    rw [show (i + 1) * 4 = i * 4 + 4 by omega, List.set_cons_succ]
    unfold cX
    rw [← ih]
    rfl
theorem cX_drop : ∀ {R : List XV} {i : Nat} {x : XV}, R[i]? = some x → (cX R).drop (i * 4) = .d (.int .i64 x.ty) :: .d (.bool x.null) :: .d (.int .i64 x.n) :: .d (.str x.s) :: cX (R.drop (i + 1))
  | [], i, x, h => by simp at h
  | y :: R, 0, x, h => by
    simp only [List.getElem?_cons_zero, Option.some.injEq] at h
    subst h
    rfl
  | y :: R, i + 1, x, h => by
    rw [List.getElem?_cons_succ] at h
    have ih := cX_drop h
    rw [show (i + 1) * 4 = i * 4 + 4 by omega]
    show List.drop (i * 4) (cX R) = _
    rw [ih]
    rfl
theorem cX_fgs (a b : Nat) : ∀ R : List XV, fgs a b (cX R) = cX R
  | [] => rfl
  | x :: R => by
    unfold cX
    simp only [fgs, fg, cX_fgs a b R]
theorem cX_rep (n : Nat) : (List.replicate n [AV.d (.int .i64 0), .d (.bool false), .d (.int .i64 0), .d (.str [])]).flatten = cX (List.replicate n ⟨0, false, 0, []⟩) := by
  induction n with
  | zero => rfl
  | succ n ih => rw [List.replicate_succ, List.flatten_cons, ih, List.replicate_succ]; rfl
theorem cX_dv : ∀ R : List XV, (cX R).mapM dv1 = some (R.map XV.cd).flatten
  | [] => rfl
  | x :: R => by
    unfold cX
    simp only [List.mapM_cons, cX_dv R]
    rfl
theorem cX_chunk : ∀ R : List XV, chunks 4 R.length (R.map XV.cd).flatten = encL XV.cd R
  | [] => rfl
  | x :: R => by
    show XV.cd x :: chunks 4 R.length (R.map XV.cd).flatten = _
    rw [cX_chunk R]
    rfl
theorem cX_pur : ∀ R : List XV, purAs (cX R) = true
  | [] => rfl
  | x :: R => by
    unfold cX
    simp only [purAs, purA, cX_pur R, Bool.and_self]
theorem view_cX {e : TypeId} (he : e < 4294967296) {m : Mem} {id n : Nat} {R : List XV} (hb : m.box[id]? = some (some (e, cX R))) (hl : R.length = n) : viewA m (.bsl id 0 n 0 4) = .d (.sl 4 (encL XV.cd R)) := by
  subst hl
  simp only [viewA, hb]
  rw [if_pos ⟨he, by rw [cX_len]; omega⟩, List.drop_zero, List.take_of_length_le (by rw [cX_len]; omega), cX_dv]
  simp only [cX_chunk]
section
variable {P : Program} {m : Mem}
/-- a call that writes to two boxes -/
theorem callP_b2 {f i j : Nat} {e1 e2 : TypeId} {cs1 cs1' cs2 cs2' : List AV} {cargs args : List AV} {r : AV} {K : AV → Mem → Prop} (hij : i ≠ j) (hb1 : m.box[i]? = some (some (e1, cs1))) (hb2 : m.box[j]? = some (some (e2, cs2)))
    (ha : cargs = rens (num [i, j] m.box.length) (num [] m.row.length) args) (p1 : purAs cs1 = true ∧ purAs cs1' = true ∧ purAs cs2 = true ∧ purAs cs2' = true ∧ purA r = true)
    (hp : PFun P f args ⟨[some (e1, cs1), some (e2, cs2)], []⟩ r ⟨[some (e1, cs1'), some (e2, cs2')], []⟩) (hk : Has r → K r ⟨(m.box.set i (some (e1, cs1'))).set j (some (e2, cs2')), m.row⟩) : callP P m f cargs K := by
  obtain ⟨q1, q2, q3, q4, q5⟩ := p1
  have hok : EmbOk m [i, j] [] ⟨[some (e1, cs1), some (e2, cs2)], []⟩ := by
    refine ⟨by simp [hij], by simp, rfl, rfl, fun k l hl => ?_, fun k l hl => by simp at hl⟩
    match k with
    | 0 =>
      simp at hl
      subst hl
      exact ⟨_, rfl, by rw [hb1]; simp only [renBox, Option.map_some, rens_pur cs1 q1]⟩
    | 1 =>
      simp at hl
      subst hl
      exact ⟨_, rfl, by rw [hb2]; simp only [renBox, Option.map_some, rens_pur cs2 q3]⟩
    | k + 2 => simp at hl
  refine callP_emb [i, j] [] hok (args' := cargs) (cos_refl _) ha hp fun h => ?_
  rw [ren_pur r q5] at h ⊢
  have e2 : embM m [i, j] [] ⟨[some (e1, cs1'), some (e2, cs2')], []⟩ = ⟨(m.box.set i (some (e1, cs1'))).set j (some (e2, cs2')), m.row⟩ := by
    unfold embM
    simp only [List.map_cons, List.map_nil, renBox, Option.map_some, rens_pur cs1' q2, rens_pur cs2' q4, setAll, List.length_cons, List.length_nil, List.drop_succ_cons, List.append_nil, List.drop_nil]
  rw [e2]
  exact hk h
/-- a call that writes to one box -/
theorem callP_b1 {f i : Nat} {e1 : TypeId} {cs1 cs1' : List AV} {cargs args : List AV} {r : AV} {K : AV → Mem → Prop} (hb1 : m.box[i]? = some (some (e1, cs1)))
    (ha : cargs = rens (num [i] m.box.length) (num [] m.row.length) args) (p1 : purAs cs1 = true ∧ purAs cs1' = true ∧ purA r = true)
    (hp : PFun P f args ⟨[some (e1, cs1)], []⟩ r ⟨[some (e1, cs1')], []⟩) (hk : Has r → K r ⟨m.box.set i (some (e1, cs1')), m.row⟩) : callP P m f cargs K := by
  obtain ⟨q1, q2, q5⟩ := p1
  have hok : EmbOk m [i] [] ⟨[some (e1, cs1)], []⟩ := by
    refine ⟨by simp, by simp, rfl, rfl, fun k l hl => ?_, fun k l hl => by simp at hl⟩
    match k with
    | 0 =>
      simp at hl
      subst hl
      exact ⟨_, rfl, by rw [hb1]; simp only [renBox, Option.map_some, rens_pur cs1 q1]⟩
    | k + 1 => simp at hl
  refine callP_emb [i] [] hok (args' := cargs) (cos_refl _) ha hp fun h => ?_
  rw [ren_pur r q5] at h ⊢
  have e2 : embM m [i] [] ⟨[some (e1, cs1')], []⟩ = ⟨m.box.set i (some (e1, cs1')), m.row⟩ := by
    unfold embM
    simp only [List.map_cons, List.map_nil, renBox, Option.map_some, rens_pur cs1' q2, setAll, List.length_cons, List.length_nil, List.drop_succ_cons, List.append_nil, List.drop_nil]
  rw [e2]
  exact hk h
end
/-- a reader: what is left, and whether it went wrong -/
abbrev Rdr : Type := List Int × Bool
def byteS (st : Rdr) : Int × Rdr := match st.1 with
  | [] => (0, [], true)
  | c :: b => (c, b, st.2)
theorem byteS_of (c : Int) (l : List Int) (bad : Bool) : byteS (c :: l, bad) = (c, l, bad) := rfl
def wentS (st : Rdr) (m e : Int) : Rdr := (if e = 0 then st.1.drop m.toNat else st.1, st.2 || !decide (e = 0))
/-- a value off a reader: its type, the byte of Null, how texts are read -/
def valS (td : List Int → List Int × Int × Int) (nb k : Int) (st : Rdr) : XV × Rdr :=
  if (byteS st).1 = nb then (⟨k, true, 0, []⟩, (byteS st).2)
  else if k = 1 then (⟨1, false, (Codec.takeKeyIntF (byteS st).2.1).1, []⟩, wentS (byteS st).2 (Codec.takeKeyIntF (byteS st).2.1).2.1 (Codec.takeKeyIntF (byteS st).2.1).2.2)
  else if k = 2 then (⟨2, false, (byteS (byteS st).2).1, []⟩, (byteS (byteS st).2).2)
  else (⟨k, false, 0, (td (byteS st).2.1).1⟩, wentS (byteS st).2 (td (byteS st).2.1).2.1 (td (byteS st).2.1).2.2)
def rdC (st : Rdr) : List AV := [bs st.1, .d (.bool st.2)]
/-- the type of a column -/
def tyAt (T : Tb) (i : Int) : Int := (T.cols.getD i.toNat ⟨[], 0, false, ⟨0, false, 0, []⟩⟩).ty
def keysS (T : Tb) : List Int → List XV × Rdr → List XV × Rdr
  | [], x => x
  | i :: l, x => keysS T l (x.1.set i.toNat (valS Codec.tkL 2 (tyAt T i) x.2).1, (valS Codec.tkL 2 (tyAt T i) x.2).2)
theorem keysS_snoc (T : Tb) (i : Int) : ∀ (l : List Int) (x : List XV × Rdr), keysS T (l ++ [i]) x = ((keysS T l x).1.set i.toNat (valS Codec.tkL 2 (tyAt T i) (keysS T l x).2).1, (valS Codec.tkL 2 (tyAt T i) (keysS T l x).2).2)
  | [], x => rfl
  | j :: l, x => by
    rw [List.cons_append]
    unfold keysS
    exact keysS_snoc T i l _
theorem keysS_len (T : Tb) : ∀ (l : List Int) (x : List XV × Rdr), (keysS T l x).1.length = x.1.length
  | [], x => rfl
  | j :: l, x => by
    unfold keysS
    rw [keysS_len T l]
    simp
theorem byteS_len (st : Rdr) : (byteS st).2.1.length ≤ st.1.length := by
  unfold byteS
  split
  · rename_i h; simp
  · rename_i c b h; rw [h]; simp
theorem wentS_len (st : Rdr) (m e : Int) : (wentS st m e).1.length ≤ st.1.length := by
  unfold wentS
  split <;> simp
theorem valS_len (td : List Int → List Int × Int × Int) (nb k : Int) (st : Rdr) : (valS td nb k st).2.1.length ≤ st.1.length := by
  have h1 := byteS_len st
  unfold valS
  split
  · exact h1
  · split
    · exact Nat.le_trans (wentS_len _ _ _) h1
    · split
      · exact Nat.le_trans (byteS_len _) h1
      · exact Nat.le_trans (wentS_len _ _ _) h1
theorem keysS_rlen (T : Tb) : ∀ (l : List Int) (x : List XV × Rdr), (keysS T l x).2.1.length ≤ x.2.1.length
  | [], x => Nat.le_refl _
  | j :: l, x => by
    unfold keysS
    exact Nat.le_trans (keysS_rlen T l _) (valS_len _ _ _ _)
end PM
end Go.Proofs.YtfkemeamimcnjaaDoor
