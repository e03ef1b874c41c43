/- sstable: low: a number with its highest byte first (walk). sstable: lists of entries of the call's own (as memtable's); what a block's body reads as, plain. sstable: the entries of a block's frame (walk). -/
import Derived.Test.YtmojbamloanleaaSs7
import Derived.Test.YtmojbamloanleaaSs20
import Derived.Test.YtmojbamloanleaaSsM3
set_option linter.unusedVariables false
set_option linter.unusedSimpArgs false
namespace Go.Proofs.Ytmojbamloanleaa
open Go.RowKit
namespace Ss
open Mt Codec
theorem i64_or_add (a c : Nat) (ha : a < 36028797018963968) (hc : c < 256) : bits .or .i64 ((a : Int) * 256) (c : Int) = (a : Int) * 256 + c := by
  have h1 : ((a : Int) * 256) = ((a * 256 : Nat) : Int) := by simp
  have hA : a * 256 < 2 ^ 64 := by omega
  have hC : c < 2 ^ 64 := by omega
  have h2 : a * 256 ||| c = a * 256 + c := by
    have := Nat.two_pow_add_eq_or_of_lt (i := 8) (b := c) (by omega) a
    rw [Nat.mul_comm]; exact this.symm
  rw [h1]
  unfold bits
  have e1 : (BitVec.ofInt IntKind.i64.bits ((a * 256 : Nat) : Int)).toNat = a * 256 := ofInt_nat _ _ hA
  have e2 : (BitVec.ofInt IntKind.i64.bits ((c : Nat) : Int)).toNat = c := ofInt_nat _ _ hC
  simp only [BitVec.toNat_or, e1, e2, h2]
  rw [IntWalk.i64_in _ (by omega)]
  omega
/-- a number with its highest byte first -/
def lowF (l : List Int) : Int := l.foldl (fun n c => n * 256 + c) 0
theorem lowF_snoc (l : List Int) (c : Int) : lowF (l ++ [c]) = lowF l * 256 + c := by
  unfold lowF
  rw [List.foldl_append]
  rfl
theorem lowF_bd : ∀ (k : Nat) (l : List Int), Rng l → l.length = k → k ≤ 4 → 0 ≤ lowF l ∧ lowF l ≤ 4294967295 := by
  intro k l hr hl hk
  match l, hl with
  | [], _ => simp [lowF]
  | [a], _ => have h1 := hr a (by simp); simp [lowF]; omega
  | [a, b], _ => have h1 := hr a (by simp); have h2 := hr b (by simp); simp [lowF]; omega
  | [a, b, c], _ => have h1 := hr a (by simp); have h2 := hr b (by simp); have h3 := hr c (by simp); simp [lowF]; omega
  | [a, b, c, d], _ => have h1 := hr a (by simp); have h2 := hr b (by simp); have h3 := hr c (by simp); have h4 := hr d (by simp); simp [lowF]; omega
  | _ :: _ :: _ :: _ :: _ :: _, h => simp at h; omega
set_option maxRecDepth 100000 in
set_option maxHeartbeats 4000000 in
theorem low_any (v : Value) (l : List Int) (w : World) (h : IsB w v l) (hl : l.length ≤ 4) : Calls Try.prog 41 #[v] w (Ret (.int .i64 (lowF l)) w) := by
  obtain ⟨vo, vc, rfl, -, -, -⟩ := h.form
  have H := Lib.hid h
  clear h
  go_enter Try.func41, Try.ntmps41
  go_wp2_with fail
  go_loopw [3, 8] (fun nv iv wr => ∃ k : Nat, k ≤ l.length ∧ iv = .int .i64 k ∧ ∃ n : Nat, nv = .int .i64 n ∧ n ≤ 4294967295 ∧ Hid ((n : Int) = lowF (l.take k)) ∧ Hid (Below w.heap.size w wr)) (fun _ iv _ => l.length - (intOf iv).toNat)
  case atStart => exact ⟨0, Nat.zero_le _, rfl, 0, rfl, by omega, rfl, Below.refl _ _⟩
  case round =>
    obtain ⟨k, hk, rfl, n, rfl, hn, hnl, hb⟩ := hrel
    by_cases hkl : k < l.length
    · obtain ⟨g, o, x, rfl, hlt, hx, hc, x0, x1⟩ := H.out.at_ hkl
      obtain ⟨c, rfl⟩ := Int.eq_ofNat_of_zero_le x0
      have c0 : wr.cell? ⟨g, o + k, none⟩ = some (.int .u8 c) := (hb.out.cell (p := ⟨g, o + k, none⟩) hlt).trans hc
      have p0 : (k : Int) < l.length := by omega
      have p1 := IntWalk.i64_in ((k : Int) + 1) (by omega)
      have HS : Hid (lowF (l.take (k + 1)) = (n : Int) * 256 + c) := Lib.hid (by rw [take_snoc' hx.out, lowF_snoc, hnl.out])
      have hbd := lowF_bd (k + 1) (l.take (k + 1)) (H.out.rng.take _) (by rw [List.length_take]; omega) (by omega)
      rw [HS.out] at hbd
      have p2 := IntWalk.i64_in ((n : Int) * 256) (by omega)
      have p3 := i64_or_add n c (by omega) (by omega)
      have p4 := IntWalk.i64_in (c : Int) (by omega)
      clear hx hc
      go_wp2_with fail
      go_roundw
      case rel => exact ⟨k + 1, by omega, by go_num, n * 256 + c, by go_num, by omega, Lib.hid (by rw [HS.out]; omega), hb⟩
      case measure => simp [intOf] <;> omega
    · have hkk : k = l.length := by omega
      subst hkk
      rw [List.take_length] at hnl
      have p0 : ¬ ((l.length : Int) < (l.length : Int)) := by omega
      go_wp2_with fail
      go_ret
      exact ⟨by rw [hnl.out]; rfl, hb.out⟩
end Ss
end Go.Proofs.Ytmojbamloanleaa
namespace Go.Proofs.Ytmojbamloanleaa
open Go.RowKit
namespace Mt
abbrev EV : Type := En × Value × Value
def c4 (r : EV) : List Value := [r.2.1, .int .u64 r.1.2.1, .bool r.1.2.2.1, r.2.2]
theorem c4_len (r : EV) : (c4 r).length = 4 := rfl
def GoodE (w : World) (base : Nat) (r : EV) : Prop := OwnS w base 5 r.2.1 r.1.1 ∧ OwnS w base 5 r.2.2 r.1.2.2.2 ∧ U64 r.1.2.1
/-- a slice of entries of the call's own, their bytes too -/
def OwnEs (w : World) (base : Nat) (v : Value) (l : List En) : Prop := ∃ rs : List EV, rs.map (·.1) = l ∧ w.ownsRow base 46 4 v l.length (rs.flatMap c4) ∧ ∀ r ∈ rs, GoodE w base r
theorem OwnEs.isEs {w : World} {base : Nat} {v : Value} {l : List En} (h : OwnEs w base v l) : IsEs w v l := by
  obtain ⟨rs, rfl, ho, hg⟩ := h
  obtain ⟨ao, cap, rfl, h1, h2, h3, h4⟩ := own_form ho
  refine ⟨ao, cap, rfl, h1, by unfold maxLen; omega, fun hn => ⟨List.eq_nil_of_length_eq_zero (h3 hn).1, (h3 hn).2⟩, fun i x hx => ?_⟩
  rw [List.getElem?_map, Option.map_eq_some_iff] at hx
  obtain ⟨r, hr, rfl⟩ := hx
  have hrm := List.mem_of_getElem? hr
  have hc : ∀ j u, (c4 r)[j]? = some u → (rs.flatMap c4)[i * 4 + j]? = some u := fun j u hu => by
    rw [flat_get c4_len rs i j r hr (by have := (List.getElem?_eq_some_iff.1 hu).1; rwa [c4_len] at this)]; exact hu
  obtain ⟨g, hao, hbg, hgl, hcell⟩ := own_cell ho (hc 0 _ rfl)
  subst hao
  refine ⟨g, 0, c4 r, rfl, hgl, rfl, fun j u hu => ?_, r.2.1, r.2.2, rfl, (hg r hrm).1.isB, (hg r hrm).2.1.isB, (hg r hrm).2.2⟩
  rw [Nat.zero_add]
  exact own_cell' ho (hc j u hu)
theorem GoodE.chg {S : Nat → Prop} {w w1 : World} {base : Nat} {r : EV} (h : GoodE w base r) (k : Chg S w w1) (hS : ∀ b cur, w.heap[b]? = some (.cells cur 5 (0, 0)) → ¬ S b) : GoodE w1 base r :=
  ⟨k.ownS h.1 (fun b hb => by obtain ⟨c, hc⟩ := h.1.typed b hb; exact hS b c hc), k.ownS h.2.1 (fun b hb => by obtain ⟨c, hc⟩ := h.2.1.typed b hb; exact hS b c hc), h.2.2⟩
theorem GoodE.below {w w1 : World} {base : Nat} {r : EV} (h : GoodE w base r) (k : Below w.heap.size w w1) : GoodE w1 base r := ⟨h.1.below k, h.2.1.below k, h.2.2⟩
theorem OwnEs.below {w w1 : World} {base : Nat} {v : Value} {l : List En} (h : OwnEs w base v l) (k : Below w.heap.size w w1) : OwnEs w1 base v l := by
  obtain ⟨rs, rfl, ho, hg⟩ := h
  exact ⟨rs, rfl, own_below ho k, fun r hr => (hg r hr).below k⟩
theorem GoodE.grown {w w1 : World} {base : Nat} {r : EV} {v : Value} {n : Nat} {xs : List Value} (h : GoodE w base r) (ho : w.ownsRow base 46 4 v n xs) (k : w.grownBy w1 v.ownBlock) : GoodE w1 base r :=
  h.chg (Chg.of_grown k (S := fun b => v.ownBlock = some b) (fun _ _ h => h)) (fun b cur hb hv => by
    obtain ⟨-, -, c, hc⟩ := own_typed ho b hv
    exact absurd (types_apart hc hb) (by decide))
theorem OwnEs.push {w w1 : World} {base : Nat} {v v' : Value} {rs : List EV} {r : EV} (ho : w.ownsRow base 46 4 v rs.length (rs.flatMap c4)) (hg : ∀ r ∈ rs, GoodE w base r) (hr : GoodE w base r)
    (h1 : w1.ownsRow base 46 4 v' (rs.length + 1) (rs.flatMap c4 ++ c4 r)) (k : w.grownBy w1 v.ownBlock) : OwnEs w1 base v' (rs.map (·.1) ++ [r.1]) := by
  refine ⟨rs ++ [r], by simp, ?_, fun s hs => ?_⟩
  · rw [List.length_append, List.length_map, List.flatMap_append, List.flatMap_cons, List.flatMap_nil, List.append_nil]
    exact h1
  · rcases List.mem_append.1 hs with hs | hs
    · exact (hg s hs).grown ho k
    · rw [List.mem_singleton] at hs
      subst hs
      exact hr.grown ho k
theorem infoEn : (Try.prog.info? 46).map (fun i => (i.zero, i.size, i.bytes)) = some (some (.agg #[.slice none 0 0, .int .u64 0, .bool false, .slice none 0 0]), 4, 64) := by kernel_rfl
end Mt
namespace Ss
open Mt Codec
theorem numF_lt {b r : List Int} {n : Int} (hb : Rng b) (h : numF b = some (n, r)) : r.length ≤ b.length := by
  unfold numF at h
  split at h
  · cases h
    rw [List.length_drop]
    omega
  · cases h
/-- what is left of an entry is shorter; the key is made of the key ahead and of bytes that are read -/
theorem entryF_lt {b ahead r : List Int} {x : En} (hb : Rng b) (h : entryF b ahead = some (x, r)) : r.length < b.length ∧ x.1.length + r.length ≤ ahead.length + b.length := by
  unfold entryF at h
  rcases h0 : numF b with _ | ⟨n0, b1⟩
  · rw [h0] at h; cases h
  rw [h0] at h
  simp only at h
  have r0 : Rng b1 := by
    unfold numF at h0
    split at h0
    · cases h0; exact hb.drop _
    · cases h0
  have l0 := numF_lt hb h0
  rcases h1 : numF b1 with _ | ⟨n1, b2⟩
  · rw [h1] at h; cases h
  rw [h1] at h
  simp only at h
  have r1 : Rng b2 := by
    unfold numF at h1
    split at h1
    · cases h1; exact r0.drop _
    · cases h1
  have l1 := numF_lt r0 h1
  rcases h2 : numF b2 with _ | ⟨n2, b3⟩
  · rw [h2] at h; cases h
  rw [h2] at h
  simp only at h
  have r2 : Rng b3 := by
    unfold numF at h2
    split at h2
    · cases h2; exact r1.drop _
    · cases h2
  have l2 := numF_lt r1 h2
  unfold restF at h
  rcases b3 with _ | ⟨d, b4⟩
  · cases h
  simp only at h
  split at h
  · cases h
  rcases h3 : numF b4 with _ | ⟨n3, b5⟩
  · rw [h3] at h; cases h
  rw [h3] at h
  simp only at h
  have r3 : Rng b4 := fun y hy => r2 y (List.mem_cons_of_mem _ hy)
  have l3 := numF_lt r3 h3
  split at h
  · cases h
  · cases h
    rename_i hn
    rw [not_or, not_or] at hn
    simp only [List.length_append, List.length_take, List.length_drop, List.length_cons] at l2 l3 ⊢
    omega
theorem numF_rest {b r : List Int} {n : Int} (hb : Rng b) (h : numF b = some (n, r)) : Rng r := by
  unfold numF at h
  split at h
  · cases h
    exact hb.drop _
  · cases h
theorem entryF_rest {b ahead r : List Int} {x : En} (hb : Rng b) (h : entryF b ahead = some (x, r)) : Rng r := by
  unfold entryF at h
  rcases h0 : numF b with _ | ⟨n0, b1⟩
  · rw [h0] at h; cases h
  rw [h0] at h
  simp only at h
  have r0 := numF_rest hb h0
  rcases h1 : numF b1 with _ | ⟨n1, b2⟩
  · rw [h1] at h; cases h
  rw [h1] at h
  simp only at h
  have r1 := numF_rest r0 h1
  rcases h2 : numF b2 with _ | ⟨n2, b3⟩
  · rw [h2] at h; cases h
  rw [h2] at h
  simp only at h
  have r2 := numF_rest r1 h2
  unfold restF at h
  rcases b3 with _ | ⟨d, b4⟩
  · cases h
  simp only at h
  split at h
  · cases h
  rcases h3 : numF b4 with _ | ⟨n3, b5⟩
  · rw [h3] at h; cases h
  rw [h3] at h
  simp only at h
  have r3 : Rng b4 := fun y hy => r2 y (List.mem_cons_of_mem _ hy)
  have r4 := numF_rest r3 h3
  split at h
  · cases h
  · cases h
    exact (r4.drop _).drop _
/-- the entries of a body from a place on -/
def readF : Nat → List Int → List Int → Option (List En)
  | _, [], _ => some []
  | 0, _ :: _, _ => none
  | k + 1, b, ahead => match entryF b ahead with
    | none => none
    | some (x, r) => (readF k r x.1).map (x :: ·)
theorem readF_more : ∀ (k m : Nat) (b ahead : List Int), Rng b → b.length ≤ k → k ≤ m → readF m b ahead = readF k b ahead
  | 0, m, [], ahead, _, _, _ => by cases m <;> rfl
  | 0, m, _ :: _, ahead, _, h, _ => by simp at h
  | k + 1, 0, b, ahead, _, _, h => by omega
  | k + 1, m + 1, [], ahead, _, _, _ => rfl
  | k + 1, m + 1, y :: b, ahead, hr, hk, hm => by
    unfold readF
    rcases he : entryF (y :: b) ahead with _ | ⟨x, r⟩
    · rfl
    · have h1 := (entryF_lt hr he).1
      simp only
      rw [readF_more k m r x.1 (entryF_rest hr he) (by simp only [List.length_cons] at h1 hk; omega) (by omega)]
/-- the entries of a body -/
def bodyR (b ahead : List Int) : Option (List En) := readF b.length b ahead
theorem bodyR_nil (ahead : List Int) : bodyR [] ahead = some [] := rfl
theorem bodyR_step {b ahead : List Int} (hr : Rng b) (hb : b ≠ []) : bodyR b ahead = match entryF b ahead with
    | none => none
    | some (x, r) => (bodyR r x.1).map (x :: ·) := by
  rcases b with _ | ⟨y, b⟩
  · exact absurd rfl hb
  unfold bodyR
  rw [List.length_cons]
  conv => lhs; unfold readF
  rcases he : entryF (y :: b) ahead with _ | ⟨x, r⟩
  · rfl
  · have h1 := (entryF_lt hr he).1
    simp only
    rw [readF_more r.length b.length r x.1 (entryF_rest hr he) (Nat.le_refl _) (by simp only [List.length_cons] at h1; omega)]
end Ss
end Go.Proofs.Ytmojbamloanleaa
namespace Go.Proofs.Ytmojbamloanleaa
open Go.RowKit
namespace Ss
open Mt Codec
theorem bel_through {w w1 w2 : World} (h : Below w.heap.size w w1) (k : Below w1.heap.size w1 w2) : Below w.heap.size w w2 := bel_call h k
def slN : Value → Nat
  | .slice _ n _ => n
  | _ => 0
def framR (l : List Int) : Option (List En) := if (takeFrameF l).2.2.2 = 0 then bodyR (takeFrameF l).2.1 [] else none
def EntriesP (l : List Int) (w : World) (e : Ending) (w' : World) : Prop :=
  match framR l with
  | none => e = .returned (.tuple #[.slice none 0 0, .int .i64 0, .bool false]) ∧ Below w.heap.size w w'
  | some es => ∃ v, e = .returned (.tuple #[v, .int .i64 (takeFrameF l).2.2.1, .bool true]) ∧ OwnEs w' w.heap.size v es ∧ Below w.heap.size w w'
/-- what the loop of entries keeps -/
structure EsI (w W : World) (B : List Int) (ov : Value) (rs : List EV) (rest ahead : List Int) : Prop where
  row : W.ownsRow w.heap.size 46 4 ov rs.length (rs.flatMap c4)
  good : ∀ r ∈ rs, GoodE W w.heap.size r
  len : rest.length + ahead.length ≤ B.length
  cnt : rs.length + rest.length ≤ B.length
  red : bodyR B [] = (bodyR rest ahead).map (rs.map (·.1) ++ ·)
  bel : Below w.heap.size w W
theorem EsI.push {w W W' : World} {B rest ahead r : List Int} {ov ov' : Value} {rs : List EV} {x : En} {kv vv : Value} (h : EsI w W B ov rs rest ahead) (hr : Rng rest) (hn : rest ≠ []) (he : entryF rest ahead = some (x, r)) (hk : OwnS W w.heap.size 5 kv x.1) (hv : OwnS W w.heap.size 5 vv x.2.2.2) (hu : U64 x.2.1)
    (h1 : W'.ownsRow w.heap.size 46 4 ov' (rs.length + 1) (rs.flatMap c4 ++ c4 (x, kv, vv))) (k : W.grownBy W' ov.ownBlock) : EsI w W' B ov' (rs ++ [(x, kv, vv)]) r x.1 := by
  obtain ⟨l1, l2⟩ := entryF_lt hr he
  have hl := h.len
  have hc := h.cnt
  refine ⟨?_, fun s hs => ?_, by omega, by rw [List.length_append, List.length_singleton]; omega, ?_, ?_⟩
  · rw [List.length_append, List.flatMap_append, List.flatMap_cons, List.flatMap_nil, List.append_nil]
    exact h1
  · rcases List.mem_append.1 hs with hs | hs
    · exact (h.good s hs).grown h.row k
    · rw [List.mem_singleton] at hs
      subst hs
      exact GoodE.grown (r := (x, kv, vv)) ⟨hk, hv, hu⟩ h.row k
  · rw [h.red, bodyR_step hr hn, he]
    simp only [Option.map_map, List.map_append, List.map_cons, List.map_nil]
    congr 1
    funext y
    simp
  · exact h.bel.trans ((Chg.of_grown k (S := fun b => ov.ownBlock = some b) (fun _ _ h => h)).below h.bel.size (fun b hb e => by have := (h.row.lt b e).1; omega))
theorem EsI.below {w W W' : World} {B rest ahead : List Int} {ov : Value} {rs : List EV} (h : EsI w W B ov rs rest ahead) (hb : Below W.heap.size W W') : EsI w W' B ov rs rest ahead :=
  ⟨own_below h.row hb, fun r hr => (h.good r hr).below hb, h.len, h.cnt, h.red, bel_call h.bel hb⟩
set_option maxRecDepth 100000 in
set_option maxHeartbeats 8000000 in
theorem entries_any (fv : Value) (l : List Int) (w : World) (h : IsB w fv l) (hl : l.length ≤ 4194304) (hbl : (takeFrameF l).2.1.length ≤ 4194304) : Calls Try.prog 40 #[fv] w (EntriesP l w) := by
  obtain ⟨i0, hi0, hz0, hz1, hz2⟩ := info_parts infoEn
  have HI := Lib.hid hi0; have HZ0 := Lib.hid hz0; have HZ1 := Lib.hid hz1; have HZ2 := Lib.hid hz2
  obtain ⟨fo, fc, rfl, -, -, -⟩ := h.form
  have HT := Lib.hid (takeFrame_any _ l w h (by omega))
  have HF : Hid (framR l = if (takeFrameF l).2.2.2 = 0 then bodyR (takeFrameF l).2.1 [] else none) := Lib.hid rfl
  obtain ⟨fk, B, fn, fcode, hT⟩ : ∃ a b c d, takeFrameF l = (a, b, c, d) := ⟨_, _, _, _, rfl⟩
  have HN : Hid ((takeFrameF l).2.2.1 = fn) := Lib.hid (by rw [hT])
  unfold TFPost at HT
  rw [hT] at HT HF hbl
  simp only at HT HF hbl
  clear hT h hi0 hz0 hz1 hz2
  go_enter Try.func40, Try.ntmps40
  go_wp2_with fail
  refine HT.out.mono ?_
  rintro e w1 ⟨v1, rfl, o1, b1⟩
  obtain ⟨bo, bc, rfl, -, -, -, -⟩ := o1.form
  have B1 := Lib.hid b1
  have O1 := Lib.hid o1.isB
  clear o1 b1 HT
  by_cases hc : fcode = 0
  · subst hc
    rw [if_pos rfl] at HF
    go_wp2_with fail
    go_loopw [6, 9, 10] (fun bv ov av wr => ∃ (rs : List EV) (rest ahead : List Int), Hid (IsB w1 bv rest) ∧ Hid (OwnS wr w1.heap.size 5 av ahead) ∧ Hid (EsI w1 wr B ov rs rest ahead)) (fun bv _ _ _ => slN bv)
    case atStart => exact ⟨[], B, [], O1, Lib.hid OwnS.none, Lib.hid ⟨World.ownsRow_nil _ _ _ _, fun r hr => (by cases hr), by simp, by simp, by simp, Below.refl _ _⟩⟩
    case round =>
      obtain ⟨rs, rest, ahead, hrb, hab, hes⟩ := hrel
      obtain ⟨ro, rc, rfl, -, -, -⟩ := hrb.out.form
      obtain ⟨ao, ac, rfl, -, -, -, -⟩ := hab.out.form
      obtain ⟨oo, oc, rfl, -, -, -, -⟩ := own_form hes.out.row
      have hln := hes.out.len
      have hcn := hes.out.cnt
      by_cases hr : rest = []
      · subst hr
        have HR : Hid (framR l = some (rs.map (·.1))) := Lib.hid (by rw [HF.out, hes.out.red]; simp [bodyR_nil])
        go_wp2_with fail
        refine bodyPost_ret (v := .tuple #[.slice oo rs.length oc, .int .i64 fn, .bool true]) (by first | (simp [results, Try.results40, go_sem]; done) | (simp [results, Try.results40, go_sem]; go_simp)) rfl ?_
        unfold EntriesP
        rw [HR.out, HN.out]
        exact ⟨_, rfl, ⟨rs, rfl, by rw [List.length_map]; exact own_mono hes.out.row B1.out.size, fun r hr => ⟨(hes.out.good r hr).1.mono B1.out.size, (hes.out.good r hr).2.1.mono B1.out.size, (hes.out.good r hr).2.2⟩⟩, bel_through B1.out hes.out.bel⟩
      · have hp : 0 < rest.length := List.length_pos_iff.2 hr
        have p0 : (0 : Int) < (rest.length : Int) := by omega
        have HRN := Lib.hid hr
        have HEN := Lib.hid (entry_any _ _ rest ahead wr (hrb.out.below hes.out.bel) hab.out.isB (by omega))
        clear hr
        go_wp2_with fail
        refine HEN.out.mono ?_
        intro e w2 hq
        unfold EntryP at hq
        rcases hE : entryF rest ahead with _ | ⟨x, r⟩
        · rw [hE] at hq
          obtain ⟨rfl, hb2⟩ := hq
          have HR : Hid (framR l = none) := Lib.hid (by rw [HF.out, hes.out.red, bodyR_step hrb.out.rng HRN.out, hE]; rfl)
          have G2 : Hid (Below w.heap.size w w2) := Lib.hid (bel_through B1.out (bel_call hes.out.bel hb2))
          clear hb2 hE HEN
          go_wp2_with fail
          refine bodyPost_ret (v := .tuple #[.slice none 0 0, .int .i64 0, .bool false]) (by first | (simp [results, Try.results40, go_sem]; done) | (simp [results, Try.results40, go_sem]; go_simp)) rfl ?_
          unfold EntriesP
          rw [HR.out]
          exact ⟨rfl, by first | exact G2.out.alloc G2.out.size _ | exact bel_alloc G2.out _⟩
        · rw [hE] at hq
          obtain ⟨kv, vv, rv, rfl, ok, ow, ir, hpr, hu, hb2⟩ := hq
          have HE := Lib.hid hE
          have HE' := Lib.hid hE
          have hes2 := hes.out.below hb2
          have HS2 := Lib.hid hes2
          have OK := Lib.hid (ok.mono hes.out.bel.size)
          have OW := Lib.hid (ow.mono hes.out.bel.size)
          have IR := Lib.hid (hpr w1 hrb.out)
          have HU := Lib.hid hu
          obtain ⟨ko, kc, rfl, -, -, -, -⟩ := ok.form
          obtain ⟨vo, vc, rfl, -, -, -, -⟩ := ow.form
          obtain ⟨qo, qc, rfl, -, -, -⟩ := ir.form
          clear ok ow ir hpr hu hb2 hE HEN hes2
          have HA := Lib.hid (HS2.out.below ((Below.refl _ w2).alloc (Nat.le_refl _) (.cells #[.slice ko x.1.length kc, .int .u64 x.2.1, .bool x.2.2.1, .slice vo x.2.2.2.length vc] 46)))
          have HWB : Hid (Below w2.heap.size w2 (w2.alloc (.cells #[.slice ko x.1.length kc, .int .u64 x.2.1, .bool x.2.2.1, .slice vo x.2.2.2.length vc] 46))) := Lib.hid ((Below.refl _ w2).alloc (Nat.le_refl _) _)
          have HBX : Hid ((w2.alloc (.cells #[.slice ko x.1.length kc, .int .u64 x.2.1, .bool x.2.2.1, .slice vo x.2.2.2.length vc] 46)).heap[w2.heap.size]? = some (.cells #[.slice ko x.1.length kc, .int .u64 x.2.1, .bool x.2.2.1, .slice vo x.2.2.2.length vc] 46 (0, 0))) := Lib.hid (heap_alloc_new w2 _)
          go_wp2_with (at_builtin; refine wpList_append_cells (w := w2.alloc (.cells #[.slice ko x.1.length kc, .int .u64 x.2.1, .bool x.2.2.1, .slice vo x.2.2.2.length vc] 46)) (base := w1.heap.size) (size := 4) (n := rs.length) (xs := rs.flatMap c4) (.tmp 35) (.tmp 37) _ rfl rfl i0 _ 64 Try.underlying22 HI.out HZ0.out HZ1.out HZ2.out rfl (by decide) [.slice ko x.1.length kc, .int .u64 x.2.1, .bool x.2.2.1, .slice vo x.2.2.2.length vc] rfl (by intro u hu; simp only [List.mem_cons, List.not_mem_nil, or_false] at hu; rcases hu with rfl | rfl | rfl | rfl <;> rfl) rfl (by rw [World.size_alloc]; rfl) HA.out.row (by omega) (by omega) HA.out.bel.size ?_; intro v3 w3 ho3 hg3 hk3; have H3 := Lib.hid (HA.out.push hrb.out.rng HRN.out HE.out (OK.out.below HWB.out) (OW.out.below HWB.out) HU.out ho3 hg3); obtain ⟨vo3, vc3, rfl, -, -, -, -⟩ := own_form ho3; have hx3 := (Chg.of_grown hg3 (S := fun b => (Value.slice oo rs.length oc).ownBlock = some b) (fun _ _ h => h)).block w2.heap.size (by simp) (fun e => by have := (HS2.out.row.lt _ e).2; omega); have e0 : w3.cell? ⟨w2.heap.size, 0, none⟩ = some (.slice ko x.1.length kc) := (cell_of_row _ _ 0 _ _ _ (hx3.trans HBX.out)).trans rfl; have C3 : Hid (Below w2.heap.size w2 w3 ∨ True) := Lib.hid (.inr trivial); clear ho3 hk3 hx3)
          have HLT := Lib.hid (entryF_lt hrb.out.rng HE'.out)
          refine ⟨⟨_, r, x.1, IR, Lib.hid (H3.out.good _ (List.mem_append_right _ (List.mem_singleton.2 rfl))).1, H3⟩, ?_⟩
          have := HLT.out.1
          simp only [slN]
          omega
  · rw [if_neg hc] at HF
    have q0 : (fcode == 0) = false := beq_eq_false_iff_ne.2 hc
    go_wp2_with fail
    refine bodyPost_ret (v := .tuple #[.slice none 0 0, .int .i64 0, .bool false]) (by first | (simp [results, Try.results40, go_sem]; done) | (simp [results, Try.results40, go_sem]; go_simp)) rfl ?_
    unfold EntriesP
    rw [HF.out]
    exact ⟨rfl, B1.out⟩
end Ss
end Go.Proofs.Ytmojbamloanleaa
