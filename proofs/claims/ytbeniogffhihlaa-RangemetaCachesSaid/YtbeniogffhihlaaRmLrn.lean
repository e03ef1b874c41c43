/- rangemeta: slices.BinarySearchFunc over ranges, in the abstract. rangemeta: a cache learns a range: what it knows then; contracts that come out of the abstract. -/
import Derived.Test.YtbeniogffhihlaaRmP2
import Derived.Test.YtbeniogffhihlaaRmForg
import Derived.Test.YtbeniogffhihlaaRmHold
import Derived.Test.YtbeniogffhihlaaRmLink
set_option linter.unusedVariables false
set_option linter.unusedSimpArgs false
namespace Go.Proofs.Ytbeniogffhihlaa
open Go.RowKit
set_option maxRecDepth 100000
namespace PM
theorem pLearnCmp (x : Rg) (key : List Int) : Pure Try.prog 58 [x.v, bs key] (.d (.int .i64 (cmpB x.f key))) := by
  refine pure_intro Try.func58 rfl rfl rfl 10 rfl (fun hh => ?_)
  repeat' (first
    | ((with_reducible (first
     | (refine PW.seq fun K1 hK1 => ?_) | (refine PW.region fun K2 hK2 => ?_) | ((refine hK3 _ ?_; clear hK3)) | ((refine opsP_nil ?_; refine hK2 _ ?_; clear hK2)) 
     | (refine PW.ret ?_) )))
    | (((with_reducible refine cC_pure ?_ (pbaCompare ?_ ?_) (fun _ => ?_)); (focus ((repeat' (first | (refine .cons ?_ ?_) | (exact .nil) | (exact .d _) )); done))))
    | ((simp only [thenP]; (try ((repeat (fail_if_success (with_reducible refine hK1 _ ?_)); clear hK1); (with_reducible refine hK1 _ ?_); clear hK1))))
    | (((first | (((with_reducible refine opsP_cons fun K3 hK3 => ?_); simp only [wantP, opP, valP, Ur, Us])) | (skip)); simp (disch := omega) only [St.eval, St.put, upd_app, iniT_app, avOf, avOf1, nom, cellsA, AV.okv, loadA, U7, U8, Ua, Ug, Uk, Ul, Ut, Uv, V9, Va, Ve, PmL, simprocAttr, PmT, retQ, resP, tupA, fg]; try (with_reducible (first | exact co_refl _ | exact co_own _ _ _ | exact co_nilsB | exact co_nilsL _ _)))))
def fndS (l : List Rg) (key : List Int) (c : Nat) : Bool := match l[c]? with
  | some x => decide (cmpB x.f key = 0)
  | none => false
set_option maxHeartbeats 4000000 in
theorem pBSearch (l : List Rg) (key : List Int) (c : Nat) (hc : c ≤ l.length) (hl : l.length ≤ 1000) (h1 : ∀ t x, l[t]? = some x → t < c → cmpB x.f key < 0) (h2 : ∀ t x, l[t]? = some x → c ≤ t → 0 ≤ cmpB x.f key) :
    Pure Try.prog 57 [rl l, bs key, .fn 58 []] (.tup [.d (.int .i64 c), .d (.bool (fndS l key c))]) := by
  refine pure_intro Try.func57 rfl rfl rfl 49 rfl (fun hh => ?_)
  repeat' (first
    | ((with_reducible (first
     | (refine PW.seq fun K1 hK1 => ?_) | (refine PW.region fun K2 hK2 => ?_) | ((refine hK3 _ ?_; clear hK3)) | ((refine opsP_nil ?_; refine hK2 _ ?_; clear hK2)) 
     | (refine PW.block ?_) )))
    | ((simp only [thenP]; (try ((repeat (fail_if_success (with_reducible refine hK1 _ ?_)); clear hK1); (with_reducible refine hK1 _ ?_); clear hK1))))
    | (((first | (((with_reducible refine opsP_cons fun K3 hK3 => ?_); simp only [wantP, opP, valP, Ur, Us])) | (skip)); simp (disch := omega) only [St.eval, St.put, upd_app, iniT_app, avOf, avOf1, nom, lenP, builtinP, isMapA, U7, PmL, simprocAttr, PmT]; try (with_reducible (first | exact co_refl _ | exact co_own _ _ _ | exact co_nilsB | exact co_nilsL _ _)))))
  (with_reducible refine PW.loop (fun n s => ∃ i j : Nat, s.t 0 = rl l ∧ s.t 1 = bs key ∧ s.t 2 = .fn 58 [] ∧ s.t 8 = .d (.int .i64 l.length) ∧ s.t 9 = .d (.int .i64 i) ∧ s.t 10 = .d (.int .i64 j) ∧ s.n = 49 ∧ s.m = nom ∧ i ≤ c ∧ c ≤ j ∧ j ≤ l.length ∧ n = j - i) l.length ?_ ?_)
  · exact ⟨0, l.length, rfl, rfl, rfl, rfl, rfl, rfl, rfl, rfl, Nat.zero_le _, hc, Nat.le_refl _, rfl⟩
  rintro n ⟨t, nn, m⟩ ⟨i, j, t0, t1, t2, t8, t9, t10, hn, hm, hic, hcj, hjl, hnk⟩ - -
  simp only at t0 t1 t2 t8 t9 t10 hn hm
  subst hn hm
  by_cases hlt : (i : Int) < j
  · have hlt' := eq_true hlt
    obtain ⟨h, hh2⟩ : ∃ h, (i + j) / 2 = h := ⟨_, rfl⟩
    obtain ⟨x, hx⟩ : ∃ x, l[h]? = some x := ⟨_, List.getElem?_eq_getElem (by omega)⟩
    have hw : IntKind.i64.wrap ((h : Int) + 1) = h + 1 := IntWalk.i64_in _ (by omega)
    have hm2 : IntKind.i64.wrap (((i : Int) + j).fdiv (2 ^ min 1 IntKind.u64.bits)) = (h : Int) := by
      have e : (2 : Int) ^ min 1 IntKind.u64.bits = 2 := rfl
      rw [e, Int.fdiv_eq_ediv_of_nonneg _ (by decide), show ((i : Int) + j) / 2 = h by omega]
      exact IntWalk.i64_in _ (by omega)
    rcases Classical.propComplete (cmpB x.f key < 0) with hx0 | hx0
    · have hx0' := of_eq_true hx0
      have : h < c := by
        rcases Nat.lt_or_ge h c with h3 | h3
        · exact h3
        · have := h2 h x hx h3; omega
      repeat' (first
        | ((with_reducible (first
         | (refine PW.seq fun K1 hK1 => ?_) | (refine PW.region fun K2 hK2 => ?_) | ((refine hK3 _ ?_; clear hK3)) | ((refine opsP_nil ?_; refine hK2 _ ?_; clear hK2)) 
         | (refine PW.block ?_) | (refine PW.skip ?_) | ((refine hX1 ?_; clear hX1 hY1; try simp only [hb])) )))
        | (((with_reducible refine cC_pure ?_ (pLearnCmp ?_ ?_) (fun _ => ?_)); (focus ((repeat' (first | (refine .cons ?_ ?_) | (exact .nil) | (exact .d _) | (refine .agg ?_) )) <;> (simp only [purAs, purA, Vf, Bool.and_self, t0, t1, t2, t8, t9, t10, hlt', hm2, hx, hw, hx0, Rg.c]; done)))))
        | (((with_reducible refine And.intro ?_ ?_); (focus (first | omega | (simp; done) | assumption))))
        | ((simp only [thenP, blockP]; (try ((repeat (fail_if_success (with_reducible refine hK1 _ ?_)); clear hK1); (with_reducible refine hK1 _ ?_); clear hK1))))
        | (((first | (((with_reducible refine opsP_cons fun K3 hK3 => ?_); simp only [wantP, opP, valP, Ur, Us])) | ((with_reducible refine PW.condM fun X1 Y1 hX1 hY1 => ?_)) | (skip)); simp (disch := omega) only [St.eval, St.put, upd_app, avOf, avOf1, nom, loadA, binP, intsP, intP, nilP, convP, slA, Uf, Ug, Un, Up, Ur, Us, Uv, V2, V7, V9, Vr, PmL, simprocAttr, PmT, t0, t1, t2, t9, t10, hlt', hm2, hx, hw, hx0, Rg.c, condP, condB_t]; try (with_reducible (first | exact co_refl _ | exact co_own _ _ _ | exact co_nilsB | exact co_nilsL _ _)))))
      refine ⟨j - (h + 1), by omega, h + 1, j, ?_, ?_, ?_, ?_, ?_, ?_, ?_, ?_, by omega, by omega, hjl, rfl⟩
      all_goals (simp only [St.cut, Mem.cut, fg, fgs, upd_app, Nat.reduceEqDiff, ↓reduceIte, List.take_nil, List.map_nil, Int.natCast_add, Int.cast_ofNat_Int, t0, t1, t2, t8, t10]; try rfl)
    · have hx0' : ¬ cmpB x.f key < 0 := of_eq_false hx0
      have : c ≤ h := by
        rcases Nat.lt_or_ge h c with h3 | h3
        · exact absurd (h1 h x hx h3) hx0'
        · exact h3
      repeat' (first
        | ((with_reducible (first
         | (refine PW.seq fun K1 hK1 => ?_) | (refine PW.region fun K2 hK2 => ?_) | ((refine hK3 _ ?_; clear hK3)) | ((refine opsP_nil ?_; refine hK2 _ ?_; clear hK2)) 
         | (refine PW.block ?_) | (refine PW.skip ?_) | ((refine hX1 ?_; clear hX1 hY1; try simp only [hb])) | ((refine hY1 ?_; clear hX1 hY1; try simp only [hb])) )))
        | (((with_reducible refine cC_pure ?_ (pLearnCmp ?_ ?_) (fun _ => ?_)); (focus ((repeat' (first | (refine .cons ?_ ?_) | (exact .nil) | (exact .d _) | (refine .agg ?_) )) <;> (simp only [purAs, purA, Vf, Bool.and_self, t0, t1, t2, t8, t9, t10, hlt', hm2, hx, hx0, Rg.c]; done)))))
        | (((with_reducible refine And.intro ?_ ?_); (focus (first | omega | (simp; done) | assumption))))
        | ((simp only [thenP, blockP]; (try ((repeat (fail_if_success (with_reducible refine hK1 _ ?_)); clear hK1); (with_reducible refine hK1 _ ?_); clear hK1))))
        | (((first | (((with_reducible refine opsP_cons fun K3 hK3 => ?_); simp only [wantP, opP, valP, Ur, Us])) | ((with_reducible refine PW.condM fun X1 Y1 hX1 hY1 => ?_)) | (skip)); simp (disch := omega) only [St.eval, St.put, upd_app, avOf, avOf1, nom, loadA, binP, intsP, intP, nilP, convP, slA, Uf, Ug, Un, Up, Ur, Us, Uv, V2, V7, V9, Vr, PmL, simprocAttr, PmT, t0, t1, t2, t9, t10, hlt', hm2, hx, hx0, Rg.c, condP, condB_t, condB_f]; try (with_reducible (first | exact co_refl _ | exact co_own _ _ _ | exact co_nilsB | exact co_nilsL _ _)))))
      refine ⟨h - i, by omega, i, h, ?_, ?_, ?_, ?_, ?_, ?_, ?_, ?_, by omega, by omega, by omega, rfl⟩
      all_goals (simp only [St.cut, Mem.cut, fg, fgs, upd_app, Nat.reduceEqDiff, ↓reduceIte, List.take_nil, List.map_nil, t0, t1, t2, t8, t9]; try rfl)
  · have hlt' := eq_false hlt
    obtain rfl : i = c := by omega
    have hf : fndS l key i = (match l[i]? with | some x => decide (cmpB x.f key = 0) | none => false) := rfl
    by_cases hil : (i : Int) < l.length
    · have hil' := eq_true hil
      obtain ⟨x, hx⟩ : ∃ x, l[i]? = some x := ⟨_, List.getElem?_eq_getElem (by omega)⟩
      repeat' (first
        | ((with_reducible (first
         | (refine PW.seq fun K1 hK1 => ?_) | (refine PW.region fun K2 hK2 => ?_) | ((refine hK3 _ ?_; clear hK3)) | ((refine opsP_nil ?_; refine hK2 _ ?_; clear hK2)) 
         | (refine PW.exit ?_) | (refine PW.ret ?_) | ((refine hY1 ?_; clear hX1 hY1; try simp only [hb])) )))
        | (((with_reducible refine cC_pure ?_ (pLearnCmp ?_ ?_) (fun _ => ?_)); (focus ((repeat' (first | (refine .cons ?_ ?_) | (exact .nil) | (exact .d _) | (refine .agg ?_) )) <;> (simp only [purAs, purA, Vf, Bool.and_self, t0, t1, t2, t8, t9, t10, hlt', hil', hx, Rg.c]; done)))))
        | (((with_reducible refine And.intro ?_ ?_); (focus (first | omega | (simp; done) | assumption))))
        | ((simp only [thenP, blockP, ↓reduceIte]; (try ((repeat (fail_if_success (with_reducible refine hK1 _ ?_)); clear hK1); (with_reducible refine hK1 _ ?_); clear hK1))))
        | (((first | (((with_reducible refine opsP_cons fun K3 hK3 => ?_); simp only [wantP, opP, valP, Ur, Us])) | ((with_reducible refine PW.condM fun X1 Y1 hX1 hY1 => ?_)) | (skip)); simp (disch := omega) only [wantB_tt, St.eval, St.put, upd_app, avOf, avOf1, nom, loadA, binP, intsP, intP, nilP, slA, Ua, Ub, Uf, Ug, Un, Up, Ur, Us, Uv, Uz, V2, V4, V7, V9, Ve, Vr, PmL, simprocAttr, PmT, t0, t1, t2, t8, t9, t10, hlt', hil', hx, Rg.c, retQ, resP, tupA, fg, fgs, condP, condB_f]; try (with_reducible (first | exact co_refl _ | exact co_own _ _ _ | exact co_nilsB | exact co_nilsL _ _)))))
      exact co_eq (by rw [hf, hx])
    · have hil' := eq_false hil
      repeat' (first
        | ((with_reducible (first
         | (refine PW.seq fun K1 hK1 => ?_) | (refine PW.region fun K2 hK2 => ?_) | ((refine hK3 _ ?_; clear hK3)) | ((refine opsP_nil ?_; refine hK2 _ ?_; clear hK2)) 
         | (refine PW.exit ?_) | (refine PW.ret ?_) | ((refine hY1 ?_; clear hX1 hY1; try simp only [hb])) )))
        | ((simp only [thenP, blockP, ↓reduceIte]; (try ((repeat (fail_if_success (with_reducible refine hK1 _ ?_)); clear hK1); (with_reducible refine hK1 _ ?_); clear hK1))))
        | (((first | (((with_reducible refine opsP_cons fun K3 hK3 => ?_); simp only [wantP, opP, valP, Ur, Us])) | ((with_reducible refine PW.condM fun X1 Y1 hX1 hY1 => ?_)) | (skip)); simp (disch := omega) only [wantB_ft, St.eval, St.put, upd_app, avOf, avOf1, nom, binP, intsP, intP, eqP, nilP, slA, Ua, Ub, Uz, V4, Ve, PmL, simprocAttr, t0, t1, t2, t8, t9, t10, hlt', hil', retQ, resP, tupA, fg, fgs, condP, condB_f]; try (with_reducible (first | exact co_refl _ | exact co_own _ _ _ | exact co_nilsB | exact co_nilsL _ _)))))
      exact co_eq (by rw [hf, List.getElem?_eq_none (by omega)])
end PM
end Go.Proofs.Ytbeniogffhihlaa
namespace Go.Proofs.Ytbeniogffhihlaa
open Go.RowKit
namespace Rm
def keepC (r x : RangeD) : Bool := !(x.1 == r.1) && !meetB (x.2.1, x.2.2.1) (r.2.1, r.2.2.1)
def stopC (r x : RangeD) : Bool := !keepC r x && (decide (r.2.2.2 < x.2.2.2) || ((x.2.2.2 == r.2.2.2) && !sameB x r))
def lowC (l : List RangeD) (r : RangeD) : Nat := (l.takeWhile fun x => lexLt x.2.1 r.2.1).length
def insC (l : List RangeD) (r : RangeD) : List RangeD := l.take (lowC l r) ++ [r] ++ l.drop (lowC l r)
def learnB (L : List RangeD) (r : RangeD) : Bool := rightB r && !L.any (stopC r)
def learnL (L : List RangeD) (r : RangeD) : List RangeD := if learnB L r = true then insC (L.filter (keepC r)) r else L
/-- by their keys -/
def Srt (l : List RangeD) : Prop := l.Pairwise fun x y => lexLt x.2.1 y.2.1 = true
theorem Srt.get {l : List RangeD} (h : Srt l) {i j : Nat} {x y : RangeD} (hij : i < j) (hx : l[i]? = some x) (hy : l[j]? = some y) : lexLt x.2.1 y.2.1 = true := by
  obtain ⟨hi, rfl⟩ := List.getElem?_eq_some_iff.1 hx
  obtain ⟨hj, rfl⟩ := List.getElem?_eq_some_iff.1 hy
  exact List.pairwise_iff_getElem.1 h i j hi hj hij
theorem takeWhile_lt {p : RangeD → Bool} : ∀ {l : List RangeD} {t : Nat} {x : RangeD}, l[t]? = some x → t < (l.takeWhile p).length → p x = true
  | [], t, x, h, _ => by simp at h
  | y :: l, 0, x, h, ht => by
    simp at h
    subst h
    rw [List.takeWhile_cons] at ht
    split at ht
    · assumption
    · simp at ht
  | y :: l, t + 1, x, h, ht => by
    simp only [List.getElem?_cons_succ] at h
    rw [List.takeWhile_cons] at ht
    split at ht
    · exact takeWhile_lt h (by simpa using ht)
    · simp at ht
theorem takeWhile_at {p : RangeD → Bool} : ∀ {l : List RangeD} {x : RangeD}, l[(l.takeWhile p).length]? = some x → p x = false
  | [], x, h => by simp at h
  | y :: l, x, h => by
    rw [List.takeWhile_cons] at h
    split at h
    · simp only [List.length_cons, List.getElem?_cons_succ] at h
      exact takeWhile_at h
    · rename_i hn
      simp at h
      subst h
      simpa using hn
theorem lowC_le (l : List RangeD) (r : RangeD) : lowC l r ≤ l.length := List.IsPrefix.length_le (List.takeWhile_prefix _)
theorem low_below {l : List RangeD} {r x : RangeD} {t : Nat} (hx : l[t]? = some x) (ht : t < lowC l r) : lexLt x.2.1 r.2.1 = true := takeWhile_lt hx ht
theorem low_above {l : List RangeD} {r x : RangeD} {t : Nat} (h : Srt l) (hx : l[t]? = some x) (ht : lowC l r ≤ t) : lexLt x.2.1 r.2.1 = false := by
  have hlt : lowC l r < l.length := Nat.lt_of_le_of_lt ht (List.getElem?_eq_some_iff.1 hx).1
  have hy : l[lowC l r]? = some l[lowC l r] := List.getElem?_eq_getElem hlt
  have h0 : lexLt l[lowC l r].2.1 r.2.1 = false := takeWhile_at (p := fun x => lexLt x.2.1 r.2.1) hy
  rcases Nat.eq_or_lt_of_le ht with e | h1
  · subst e
    rw [hx] at hy
    cases hy
    exact h0
  · have h2 := h.get h1 hy hx
    rw [Bool.eq_false_iff]
    intro h3
    rw [lexLt_trans h2 h3] at h0
    cases h0
open PM in
theorem rg1_rel {w : World} {fv tv : Value} {id gen : Int} {f t : List Int} (hf : IsB w fv f) (ht : IsB w tv t) (h1 : I64 id) (h2 : I64 gen) : RelA G0 nom w (Rg.v ⟨id, f, t, gen⟩) (.agg #[.int .i64 id, fv, tv, .int .i64 gen]) := by
  obtain ⟨fo, fc, rfl, -, -, -⟩ := hf.form
  obtain ⟨to, tc, rfl, -, -, -⟩ := ht.form
  unfold RelA
  refine ⟨_, rfl, .cons (relA_plain (relD_i64 h1)) (.cons (relB hf) (.cons (relB ht) (.cons (relA_plain (relD_i64 h2)) .nil))), ?_⟩
  intro u hu
  simp only [List.mem_cons, List.not_mem_nil, or_false] at hu
  rcases hu with rfl | rfl | rfl | rfl <;> rfl
open PM in
theorem same_any (fv tv gv uv : Value) (x y : RangeD) (w : World) (hf : IsB w fv x.2.1) (ht : IsB w tv x.2.2.1) (hg : IsB w gv y.2.1) (hu : IsB w uv y.2.2.1) (h1 : I64 x.1 ∧ I64 x.2.2.2) (h2 : I64 y.1 ∧ I64 y.2.2.2) :
    Calls Try.prog 56 #[.agg #[.int .i64 x.1, fv, tv, .int .i64 x.2.2.2], .agg #[.int .i64 y.1, gv, uv, .int .i64 y.2.2.2]] w (Ret (.bool (sameB x y)) w) := by
  have hc := calls_of_pure (vs := [.agg #[.int .i64 x.1, fv, tv, .int .i64 x.2.2.2], .agg #[.int .i64 y.1, gv, uv, .int .i64 y.2.2.2]]) Try.func56 rfl rfl (psame ⟨x.1, x.2.1, x.2.2.1, x.2.2.2⟩ ⟨y.1, y.2.1, y.2.2.1, y.2.2.2⟩) (.cons (rg1_rel hf ht h1.1 h1.2) (.cons (rg1_rel hg hu h2.1 h2.2) .nil))
  refine hc.mono fun e w' ⟨v', G', k1, k2, k3, k4⟩ => ⟨?_, k2⟩
  rw [k1, k4.bool]
  congr 2
open PM in
theorem bsearch_any (v kv : Value) (l : List RangeD) (r : RangeD) (w : World) (h : IsRgs w v l) (hk : IsB w kv r.2.1) (hs : Srt l) (hn : l.length ≤ 1000) :
    Calls Try.prog 57 #[v, kv, .func (.func 58) #[] #[]] w (fun e w' => ∃ b, e = .returned (.tuple #[.int .i64 (lowC l r), .bool b]) ∧ Below w.heap.size w w') := by
  have hget : ∀ t (x : Rg), (l.map toRg)[t]? = some x → ∃ y, l[t]? = some y ∧ x = toRg y := fun t x hx => by
    rw [List.getElem?_map, Option.map_eq_some_iff] at hx
    obtain ⟨y, h1, h2⟩ := hx
    exact ⟨y, h1, h2.symm⟩
  have hP := pBSearch (l.map toRg) r.2.1 (lowC l r) (by rw [List.length_map]; exact lowC_le l r) (by rw [List.length_map]; exact hn)
    (fun t x hx ht => by
      obtain ⟨y, hy, rfl⟩ := hget t x hx
      have h1 := low_below hy ht
      have := cmpB_neg y.2.1 r.2.1
      rw [h1] at this
      exact of_decide_eq_true this)
    (fun t x hx ht => by
      obtain ⟨y, hy, rfl⟩ := hget t x hx
      have h1 := low_above hs hy ht
      have := cmpB_nneg y.2.1 r.2.1
      rw [h1] at this
      exact of_decide_eq_true this)
  have hfn : RelA G0 nom w (.fn 58 []) (.func (.func 58) #[] #[]) := by unfold RelA; exact ⟨[], rfl, .nil⟩
  have hc := calls_of_pure (vs := [v, kv, .func (.func 58) #[] #[]]) Try.func57 rfl rfl hP (.cons (rgs_rel h) (.cons (relB hk) (.cons hfn .nil)))
  refine hc.mono fun e w' ⟨v', G', k1, k2, k3, k4⟩ => ?_
  unfold RelA at k4
  obtain ⟨us, rfl, k5⟩ := k4
  unfold RelAs at k5
  obtain ⟨a, us, rfl, k6, k5⟩ := k5
  unfold RelAs at k5
  obtain ⟨b, us, rfl, k7, k5⟩ := k5
  unfold RelAs at k5
  subst k5
  rw [k6.int.1, k7.bool] at k1
  exact ⟨_, k1, k2⟩
end Rm
end Go.Proofs.Ytbeniogffhihlaa
