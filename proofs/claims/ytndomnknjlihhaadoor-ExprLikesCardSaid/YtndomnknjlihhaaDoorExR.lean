/- expr in the abstract: whether a text is like a pattern, the reference's way. -/
import Derived.Test.YtndomnknjlihhaaDoorExP
import Derived.Test.YtndomnknjlihhaaDoorPmF
set_option linter.unusedVariables false
set_option linter.unusedSimpArgs false
namespace Go.Proofs.YtndomnknjlihhaaDoor
open Go.RowKit
namespace PM
def eI (n : Int) : List DV := [.int .i64 n]
def eB (b : Bool) : List DV := [.bool b]
def cB (l : List Bool) : List AV := l.map fun b => .d (.bool b)
theorem cB_len (l : List Bool) : (cB l).length = l.length := by unfold cB; rw [List.length_map]
theorem cB_set (l : List Bool) (i : Nat) (b : Bool) : (cB l).set i (.d (.bool b)) = cB (l.set i b) := by unfold cB; rw [List.map_set]
theorem cB_drop {l : List Bool} {i : Nat} {b : Bool} (h : l[i]? = some b) : (cB l).drop i = .d (.bool b) :: (cB l).drop (i + 1) := by
  refine dropG ?_
  unfold cB
  rw [List.getElem?_map, h]
  rfl
theorem cB_fgs (a b : Nat) : ∀ l : List Bool, fgs a b (cB l) = cB l
  | [] => rfl
  | x :: l => by
    have := cB_fgs a b l
    unfold cB at this ⊢
    rw [List.map_cons]
    unfold fgs
    rw [this]
    rfl
theorem cB_rep (n : Nat) : (List.replicate n [AV.d (.bool false)]).flatten = cB (List.replicate n false) := by
  unfold cB
  rw [List.map_replicate]
  induction n with
  | zero => rfl
  | succ n ih => rw [List.replicate_succ, List.flatten_cons, ih, List.replicate_succ]; rfl
theorem dv_cB : ∀ l : List Bool, (cB l).mapM dv1 = some (l.map DV.bool)
  | [] => rfl
  | b :: l => by
    have := dv_cB l
    unfold cB at this ⊢
    rw [List.map_cons, List.mapM_cons, this]
    rfl
theorem chunk1 : ∀ l : List Bool, chunks 1 l.length (l.map DV.bool) = encL eB l
  | [] => rfl
  | b :: l => by
    unfold encL
    show [DV.bool b] :: chunks 1 l.length (l.map DV.bool) = _
    rw [chunk1 l]
    rfl
theorem view_cB {e : TypeId} (he : e < 4294967296) {m : Mem} {id n : Nat} {l : List Bool} (hb : m.box[id]? = some (some (e, cB l))) (hl : l.length = n) : viewA m (.bsl id 0 n 0 1) = .d (.sl 1 (encL eB l)) := by
  subst hl
  simp only [viewA, hb]
  rw [if_pos ⟨he, by rw [cB_len]; omega⟩, List.drop_zero, Nat.mul_one, List.take_of_length_le (by rw [cB_len]; omega), dv_cB]
  simp only [chunk1]
theorem PW.freezeR {P : Program} {id : Nat} {l : List Oper} {Q : Exit → St → Prop} {s : St} (i bid off n cap k : Nat) {xs : List (List DV)} {b : TypeId × List AV} (hi : s.t i = .bsl bid off n cap k) (hb : s.m.box[bid]? = some (some b)) (hv : viewA s.m (.bsl bid off n 0 k) = .d (.sl k xs))
    (h : PW P (.region id l.toArray false) Q ⟨upd s.t i (.d (.sl k xs)), s.n, ⟨s.m.box.set bid none, s.m.row⟩⟩) : PW P (.region id l.toArray false) Q s := PW.freezeS i bid off n cap k hi hb hv h
theorem ini0 (n : Nat) : ∀ j, j ≤ n → (((List.replicate (n + 1) false).set 0 true)[j]? = some true ↔ j ≤ 0) := fun j hj => by
  rw [set_true (by simp)]
  simp only [List.getElem?_replicate]
  constructor
  · rintro (h | h)
    · omega
    · split at h <;> simp at h
  · intro h; exact .inl (by omega)
set_option maxRecDepth 100000 in
set_option maxHeartbeats 8000000 in
theorem pRLike (T Q : List Int) (hT4 : T.length ≤ 4000) (hQ4 : Q.length ≤ 4000) : Pure Tryd.prog 11 [.d (.str T), .d (.str Q)] (.d (.bool (likeM (signs Q) T))) := by
  refine pure_intro Tryd.func11 rfl rfl rfl 162 rfl (fun hh => ?_)
  obtain ⟨rT, lT⟩ := has_str (hh (.d (.str T)) (by simp))
  obtain ⟨rQ, lQ⟩ := has_str (hh (.d (.str Q)) (by simp))
  repeat' (first
    | ((with_reducible (first
     | (refine PW.seq fun K1 hK1 => ?_) | (refine PW.region fun K2 hK2 => ?_) | ((refine hK3 _ ?_; clear hK3)) | ((refine opsP_nil ?_; refine hK2 _ ?_; clear hK2)) | (refine PW.block ?_) 
     )))
    | ((simp only [thenP]; (try ((repeat (fail_if_success (with_reducible refine hK1 _ ?_)); clear hK1); (with_reducible refine hK1 _ ?_); clear hK1))))
    | (((first | (((with_reducible refine opsP_cons fun K3 hK3 => ?_); simp only [wantP, opP, valP])) | (skip)); simp (disch := omega) only [St.eval, St.put, avOf, avOf1, nom, PmL, simprocAttr]; try (with_reducible (first | exact co_refl _ | exact co_own _ _ _ | exact co_nilsB | exact co_nilsL _ _)))))
  (with_reducible refine PW.nil2ownL eI 5 3 1 Nat.one_pos rfl rfl ?_)
  (with_reducible refine PW.loop (fun n s => ∃ (i : Nat) (pre : List Int), s.t 0 = .d (.str T) ∧ s.t 1 = .d (.str Q) ∧ s.t 5 = .own 0 1 (encL eI pre) ∧ s.t 6 = .d (.int .i64 i) ∧ s.n = 162 ∧ s.m = ⟨[], [some ⟨3, 1, pre.length⟩]⟩ ∧ i ≤ Q.length ∧ pre ++ signs (Q.drop i) = signs Q ∧ pre.length ≤ i ∧ n = Q.length - i) Q.length ?_ ?_)
  · exact ⟨0, [], rfl, rfl, rfl, rfl, rfl, rfl, Nat.zero_le _, rfl, Nat.le_refl _, rfl⟩
  rintro n ⟨t, nn, m⟩ ⟨i, pre, h0, h1, h5, h6, hn, hm, hi, hpre, hpl, hnk⟩ - -
  simp only at h0 h1 h5 h6 hn hm
  subst hn hm hnk
  by_cases hlt : (i : Int) < Q.length
  · have hlt' := eq_true hlt
    obtain ⟨c, hc⟩ : ∃ c, Q[i]? = some c := ⟨_, List.getElem?_eq_getElem (by omega)⟩
    have hcr := rQ c (List.mem_of_getElem? hc)
    have hw : IntKind.i64.wrap ((i : Int) + 1) = i + 1 := IntWalk.i64_in ((i : Int) + 1) (by omega)
    rw [dropG hc] at hpre
    by_cases e37 : c = 37
    · subst e37
      rw [signs_star] at hpre
      repeat' (first
        | ((with_reducible (first
         | (refine PW.seq fun K1 hK1 => ?_) | (refine PW.region fun K2 hK2 => ?_) | ((refine hK3 _ ?_; clear hK3)) | ((refine opsP_nil ?_; refine hK2 _ ?_; clear hK2)) | (refine litX_old ?_) | (refine litC_data ?_) | (refine PW.block ?_) | (refine PW.skip ?_)
         | ((refine hX1 ?_; clear hX1 hY1; try simp only [hb])) )))
        | (((with_reducible refine And.intro ?_ ?_); (focus (first | omega | (simp; done) | assumption))))
        | ((simp only [thenP, blockP]; (try ((repeat (fail_if_success (with_reducible refine hK1 _ ?_)); clear hK1); (with_reducible refine hK1 _ ?_); clear hK1))))
        | (((first | (((with_reducible refine opsP_cons fun K3 hK3 => ?_); simp only [wantP, opP, valP, Ur, Us, List.mapM_cons, List.mapM_nil, Uw, Ux])) | ((with_reducible refine PW.condM fun X1 Y1 hX1 hY1 => ?_)) | (skip)); simp (disch := omega) only [St.eval, St.put, upd_app, avOf, avOf1, cellsA, AV.okv, lenP, binP, intsP, intP, nilP, builtinP, appP, srcA, srcTy, isMapA, isBsl, U3, U4, U5, slA, elA, dv1, Ua, Uc, Uf, Ug, Ut, Uu, Uv, List.mapM_cons, List.mapM_nil, Uw, Ux, V0, V1, V2, V4, Option.bind_eq_bind, Option.pure_def, V7, V9, Ve, UU9, PmL, simprocAttr, PmT, h1, h5, h6, hlt', hc, hw, condP, condB_t]; try (with_reducible (first | exact co_refl _ | exact co_own _ _ _ | exact co_nilsB | exact co_nilsL _ _)))))
      refine ⟨Q.length - (i + 1), by omega, i + 1, pre ++ [257], ?_, ?_, ?_, ?_, ?_, ?_, by omega, by rw [List.append_assoc]; exact hpre, by simp; omega, rfl⟩
      all_goals (simp only [St.cut, Mem.cut, fg, upd_app, Nat.reduceEqDiff, ↓reduceIte, List.take_nil, List.map_nil, List.take_succ_cons, Nat.zero_lt_one, Nat.reduceAdd, List.length_append, List.length_cons, List.length_nil, Int.natCast_add, Int.cast_ofNat_Int, h0, h1, encL_snoc, eI]; try rfl)
    · have e37' := eq_false e37
      by_cases e95 : c = 95
      · subst e95
        rw [signs_any] at hpre
        repeat' (first
          | ((with_reducible (first
           | (refine PW.seq fun K1 hK1 => ?_) | (refine PW.region fun K2 hK2 => ?_) | ((refine hK3 _ ?_; clear hK3)) | ((refine opsP_nil ?_; refine hK2 _ ?_; clear hK2)) | (refine litX_old ?_) | (refine litC_data ?_) | (refine PW.block ?_) | (refine PW.skip ?_)
           | ((refine hX1 ?_; clear hX1 hY1; try simp only [hb])) | ((refine hY1 ?_; clear hX1 hY1; try simp only [hb])) )))
          | (((with_reducible refine And.intro ?_ ?_); (focus (first | omega | (simp; done) | assumption))))
          | ((simp only [thenP, blockP]; (try ((repeat (fail_if_success (with_reducible refine hK1 _ ?_)); clear hK1); (with_reducible refine hK1 _ ?_); clear hK1))))
          | (((first | (((with_reducible refine opsP_cons fun K3 hK3 => ?_); simp only [wantP, opP, valP, Ur, Us, List.mapM_cons, List.mapM_nil, Uw, Ux])) | ((with_reducible refine PW.condM fun X1 Y1 hX1 hY1 => ?_)) | (skip)); simp (disch := omega) only [St.eval, St.put, upd_app, avOf, avOf1, cellsA, AV.okv, lenP, binP, intsP, intP, nilP, builtinP, appP, srcA, srcTy, isMapA, isBsl, U3, U4, U5, slA, elA, dv1, Ua, Uc, Uf, Ug, Ut, Uu, Uv, List.mapM_cons, List.mapM_nil, Uw, Ux, V0, V1, V2, V4, Option.bind_eq_bind, Option.pure_def, V7, V9, Ve, UU9, PmL, simprocAttr, PmT, h1, h5, h6, hlt', hc, hw, condP, condB_t, condB_f]; try (with_reducible (first | exact co_refl _ | exact co_own _ _ _ | exact co_nilsB | exact co_nilsL _ _)))))
        refine ⟨Q.length - (i + 1), by omega, i + 1, pre ++ [256], ?_, ?_, ?_, ?_, ?_, ?_, by omega, by rw [List.append_assoc]; exact hpre, by simp; omega, rfl⟩
        all_goals (simp only [St.cut, Mem.cut, fg, upd_app, Nat.reduceEqDiff, ↓reduceIte, List.take_nil, List.map_nil, List.take_succ_cons, Nat.zero_lt_one, Nat.reduceAdd, List.length_append, List.length_cons, List.length_nil, Int.natCast_add, Int.cast_ofNat_Int, h0, h1, encL_snoc, eI]; try rfl)
      · have e95' := eq_false e95
        by_cases e92 : c = 92
        · subst e92
          by_cases hl2 : (i : Int) + 1 < Q.length
          · have hl2' := eq_true hl2
            obtain ⟨d, hd⟩ : ∃ c, Q[i + 1]? = some c := ⟨_, List.getElem?_eq_getElem (by omega)⟩
            have hdr := rQ d (List.mem_of_getElem? hd)
            have hw2 : IntKind.i64.wrap ((i : Int) + 1 + 1) = i + 2 := by rw [IntWalk.i64_in ((i : Int) + 1 + 1) (by omega)]; omega
            have hn1 : ((i : Int) + 1).toNat = i + 1 := by omega
            have hwd : IntKind.i64.wrap d = d := IntWalk.i64_in d (by omega)
            rw [dropG hd, signs_esc] at hpre
            repeat' (first
              | ((with_reducible (first
               | (refine PW.seq fun K1 hK1 => ?_) | (refine PW.region fun K2 hK2 => ?_) | ((refine hK3 _ ?_; clear hK3)) | ((refine opsP_nil ?_; refine hK2 _ ?_; clear hK2)) | (refine litX_old ?_) | (refine litC_data ?_) | (refine PW.block ?_) | (refine PW.skip ?_)
               | ((refine hX1 ?_; clear hX1 hY1; try simp only [hb])) | ((refine hY1 ?_; clear hX1 hY1; try simp only [hb])) )))
              | (((with_reducible refine And.intro ?_ ?_); (focus (first | omega | (simp; done) | assumption))))
              | ((simp only [thenP, blockP]; (try ((repeat (fail_if_success (with_reducible refine hK1 _ ?_)); clear hK1); (with_reducible refine hK1 _ ?_); clear hK1))))
              | (((first | ((with_reducible (first | refine opsP_consMt (d := ?_) (dj := ?_) (b := ?_) (r := ?_) ?_ ?_ (fun hb => ?_) (fun K3 hK3 => ?_) | refine opsP_consMf (d := ?_) (dj := ?_) (b := ?_) (r := ?_) ?_ ?_ (fun hb => ?_) (fun K3 hK3 => ?_))); rotate_left 3; (focus exact rfl); (focus (simp only [upd_app, simprocAttr]; exact rfl))) | ((with_reducible (first | refine opsP_consNt (d := ?_) (dj := ?_) (b := ?_) (r := ?_) (c := ?_) ?_ ?_ (fun hb => ?_) (fun K3 hK3 => ?_) | refine opsP_consNf (d := ?_) (dj := ?_) (b := ?_) (r := ?_) (c := ?_) ?_ ?_ (fun hb => ?_) (fun K3 hK3 => ?_))); rotate_left 4; (focus exact rfl); (focus (simp only [St.put, upd_app, iniT_app, simprocAttr, mrg_t, mrg_f]; exact rfl)))); (focus (simp only [opP, valP, Ur, Us]; (try (simp only at hb)); (try (have hp := hb; simp only [PmH, beq_iff_eq, beq_eq_false_iff_ne, ne_eq] at hp)); simp (disch := omega) only [St.eval, upd_app, avOf, avOf1, lenP, binP, intsP, intP, nilP, builtinP, isMapA, slA, PmL, simprocAttr, PmT, h1, h6, hw, hl2']; (repeat' (first | (exact rfl) | ((refine And.intro ?_ ?_); (focus (exact rfl)); (exact rfl)) | (refine And.intro (by first | omega | (simp; done) | assumption) ?_))); done)); (try simp only [St.put, Nat.reduceLT, ↓reduceIte, mrg_t])))
              | (((first | (((with_reducible refine opsP_cons fun K3 hK3 => ?_); simp only [wantP, opP, valP, Ur, Us, List.mapM_cons, List.mapM_nil, Uw, Ux])) | ((with_reducible refine PW.condM fun X1 Y1 hX1 hY1 => ?_)) | (skip)); simp (disch := omega) only [St.eval, St.put, upd_app, avOf, avOf1, cellsA, AV.okv, lenP, binP, intsP, intP, nilP, convP, builtinP, appP, srcA, srcTy, isMapA, isBsl, U3, U4, U5, slA, elA, dv1, Ua, Uc, Uf, Ug, Ut, Uu, Uv, List.mapM_cons, List.mapM_nil, Uw, Ux, V0, V1, V2, V4, Option.bind_eq_bind, Option.pure_def, V7, V9, Ve, UU9, PmL, simprocAttr, PmT, h1, h5, h6, hlt', hc, hw, hd, hw2, hn1, hwd, condP, condB_t, condB_f]; try (with_reducible (first | exact co_refl _ | exact co_own _ _ _ | exact co_nilsB | exact co_nilsL _ _)))))
            refine ⟨Q.length - (i + 2), by omega, i + 2, pre ++ [d], ?_, ?_, ?_, ?_, ?_, ?_, by omega, by rw [List.append_assoc]; exact hpre, by simp; omega, rfl⟩
            all_goals (simp only [St.cut, Mem.cut, fg, upd_app, Nat.reduceEqDiff, ↓reduceIte, List.take_nil, List.map_nil, List.take_succ_cons, Nat.zero_lt_one, Nat.reduceAdd, List.length_append, List.length_cons, List.length_nil, Int.natCast_add, Int.cast_ofNat_Int, h0, h1, encL_snoc, eI]; try rfl)
          · have hl2' := eq_false hl2
            have hwd : IntKind.i64.wrap (92 : Int) = 92 := by decide
            have hdn : Q.drop (i + 1) = [] := List.drop_eq_nil_of_le (by omega)
            rw [hdn, signs_last] at hpre
            repeat' (first
              | ((with_reducible (first
               | (refine PW.seq fun K1 hK1 => ?_) | (refine PW.region fun K2 hK2 => ?_) | ((refine hK3 _ ?_; clear hK3)) | ((refine opsP_nil ?_; refine hK2 _ ?_; clear hK2)) | (refine litX_old ?_) | (refine litC_data ?_) | (refine PW.block ?_) | (refine PW.skip ?_)
               | ((refine hX1 ?_; clear hX1 hY1; try simp only [hb])) | ((refine hY1 ?_; clear hX1 hY1; try simp only [hb])) )))
              | (((with_reducible refine And.intro ?_ ?_); (focus (first | omega | (simp; done) | assumption))))
              | ((simp only [thenP, blockP]; (try ((repeat (fail_if_success (with_reducible refine hK1 _ ?_)); clear hK1); (with_reducible refine hK1 _ ?_); clear hK1))))
              | (((first | ((with_reducible (first | refine opsP_consMt (d := ?_) (dj := ?_) (b := ?_) (r := ?_) ?_ ?_ (fun hb => ?_) (fun K3 hK3 => ?_) | refine opsP_consMf (d := ?_) (dj := ?_) (b := ?_) (r := ?_) ?_ ?_ (fun hb => ?_) (fun K3 hK3 => ?_))); rotate_left 3; (focus exact rfl); (focus (simp only [upd_app, simprocAttr]; exact rfl))) | ((with_reducible (first | refine opsP_consNt (d := ?_) (dj := ?_) (b := ?_) (r := ?_) (c := ?_) ?_ ?_ (fun hb => ?_) (fun K3 hK3 => ?_) | refine opsP_consNf (d := ?_) (dj := ?_) (b := ?_) (r := ?_) (c := ?_) ?_ ?_ (fun hb => ?_) (fun K3 hK3 => ?_))); rotate_left 4; (focus exact rfl); (focus (simp only [St.put, upd_app, iniT_app, simprocAttr, mrg_t, mrg_f]; exact rfl)))); (focus (simp only [opP, valP, Ur, Us]; (try (simp only at hb)); (try (have hp := hb; simp only [PmH, beq_iff_eq, beq_eq_false_iff_ne, ne_eq] at hp)); simp (disch := omega) only [St.eval, upd_app, avOf, avOf1, lenP, binP, intsP, intP, nilP, builtinP, isMapA, slA, PmL, simprocAttr, PmT, h1, h6, hw, hl2']; (repeat' (first | (exact rfl) | ((refine And.intro ?_ ?_); (focus (exact rfl)); (exact rfl)) | (refine And.intro (by first | omega | (simp; done) | assumption) ?_))); done)); (try simp only [St.put, Nat.reduceLT, ↓reduceIte, mrg_t])))
              | (((first | (((with_reducible refine opsP_cons fun K3 hK3 => ?_); simp only [wantP, opP, valP, Ur, Us, List.mapM_cons, List.mapM_nil, Uw, Ux])) | ((with_reducible refine PW.condM fun X1 Y1 hX1 hY1 => ?_)) | (skip)); simp (disch := omega) only [St.eval, St.put, upd_app, avOf, avOf1, cellsA, AV.okv, lenP, binP, intsP, intP, nilP, convP, builtinP, appP, srcA, srcTy, isMapA, isBsl, U3, U4, U5, slA, elA, dv1, Ua, Uc, Uf, Ug, Ut, Uu, Uv, List.mapM_cons, List.mapM_nil, Uw, Ux, V0, V1, V2, V4, Option.bind_eq_bind, Option.pure_def, V7, V9, Ve, UU9, PmL, simprocAttr, PmT, h1, h5, h6, hlt', hc, hw, hwd, condP, condB_t, condB_f]; try (with_reducible (first | exact co_refl _ | exact co_own _ _ _ | exact co_nilsB | exact co_nilsL _ _)))))
            refine ⟨Q.length - (i + 1), by omega, i + 1, pre ++ [92], ?_, ?_, ?_, ?_, ?_, ?_, by omega, by rw [hdn, signs_nil, List.append_nil]; exact hpre, by simp; omega, rfl⟩
            all_goals (simp only [St.cut, Mem.cut, fg, upd_app, Nat.reduceEqDiff, ↓reduceIte, List.take_nil, List.map_nil, List.take_succ_cons, Nat.zero_lt_one, Nat.reduceAdd, List.length_append, List.length_cons, List.length_nil, Int.natCast_add, Int.cast_ofNat_Int, h0, h1, encL_snoc, eI]; try rfl)
        · have e92' := eq_false e92
          have hwd : IntKind.i64.wrap c = c := IntWalk.i64_in c (by omega)
          rw [signs_byte e37 e95 e92] at hpre
          repeat' (first
            | ((with_reducible (first
             | (refine PW.seq fun K1 hK1 => ?_) | (refine PW.region fun K2 hK2 => ?_) | ((refine hK3 _ ?_; clear hK3)) | ((refine opsP_nil ?_; refine hK2 _ ?_; clear hK2)) | (refine litX_old ?_) | (refine litC_data ?_) | (refine PW.block ?_) | (refine PW.skip ?_)
             | ((refine hX1 ?_; clear hX1 hY1; try simp only [hb])) | ((refine hY1 ?_; clear hX1 hY1; try simp only [hb])) )))
            | (((with_reducible refine And.intro ?_ ?_); (focus (first | omega | (simp; done) | assumption))))
            | ((simp only [thenP, blockP]; (try ((repeat (fail_if_success (with_reducible refine hK1 _ ?_)); clear hK1); (with_reducible refine hK1 _ ?_); clear hK1))))
            | (((first | ((with_reducible (first | refine opsP_consMt (d := ?_) (dj := ?_) (b := ?_) (r := ?_) ?_ ?_ (fun hb => ?_) (fun K3 hK3 => ?_) | refine opsP_consMf (d := ?_) (dj := ?_) (b := ?_) (r := ?_) ?_ ?_ (fun hb => ?_) (fun K3 hK3 => ?_))); rotate_left 3; (focus exact rfl); (focus (simp only [upd_app, simprocAttr]; exact rfl))) | ((with_reducible (first | refine opsP_consNt (d := ?_) (dj := ?_) (b := ?_) (r := ?_) (c := ?_) ?_ ?_ (fun hb => ?_) (fun K3 hK3 => ?_) | refine opsP_consNf (d := ?_) (dj := ?_) (b := ?_) (r := ?_) (c := ?_) ?_ ?_ (fun hb => ?_) (fun K3 hK3 => ?_))); rotate_left 4; (focus exact rfl); (focus (simp only [St.put, upd_app, iniT_app, simprocAttr, mrg_t, mrg_f]; exact rfl)))); (focus (simp only [opP, valP, Ur, Us]; (try (simp only [Bool.and_eq_true, Bool.not_eq_true'] at hb)); (try (have hp := hb; simp only [PmH, beq_iff_eq, beq_eq_false_iff_ne, ne_eq] at hp)); simp (disch := omega) only [St.eval, upd_app, avOf, avOf1, binP, nilP, builtinP, maplenP, isMapA, slA, PmL, simprocAttr, h1, h6, hb]; (repeat' (first | (exact rfl) | ((refine And.intro ?_ ?_); (focus (exact rfl)); (exact rfl)) | (refine And.intro (by first | omega | (simp; done) | assumption) ?_))); done)); (try simp only [St.put, Nat.reduceLT, ↓reduceIte, mrg_f])))
            | (((first | (((with_reducible refine opsP_cons fun K3 hK3 => ?_); simp only [wantP, opP, valP, Ur, Us, List.mapM_cons, List.mapM_nil, Uw, Ux])) | ((with_reducible refine PW.condM fun X1 Y1 hX1 hY1 => ?_)) | (skip)); simp (disch := omega) only [wantB_ft, St.eval, St.put, upd_app, avOf, avOf1, cellsA, AV.okv, lenP, binP, intsP, intP, nilP, convP, builtinP, appP, srcA, srcTy, isMapA, isBsl, U3, U4, U5, slA, elA, dv1, Ua, Ub, Uc, Uf, Ug, Ut, Uu, Uv, List.mapM_cons, List.mapM_nil, Uw, Ux, Uz, V0, V1, V2, V4, Option.bind_eq_bind, Option.pure_def, V7, V9, Ve, UU9, PmL, simprocAttr, PmT, h1, h5, h6, hlt', hc, hw, e37', e95', e92', hwd, condP, condB_t, condB_f]; try (with_reducible (first | exact co_refl _ | exact co_own _ _ _ | exact co_nilsB | exact co_nilsL _ _)))))
          refine ⟨Q.length - (i + 1), by omega, i + 1, pre ++ [c], ?_, ?_, ?_, ?_, ?_, ?_, by omega, by rw [List.append_assoc]; exact hpre, by simp; omega, rfl⟩
          all_goals (simp only [St.cut, Mem.cut, fg, upd_app, Nat.reduceEqDiff, ↓reduceIte, List.take_nil, List.map_nil, List.take_succ_cons, Nat.zero_lt_one, Nat.reduceAdd, List.length_append, List.length_cons, List.length_nil, Int.natCast_add, Int.cast_ofNat_Int, h0, h1, encL_snoc, eI]; try rfl)
  have hlt' := eq_false hlt
  rw [List.drop_eq_nil_of_le (by omega), signs_nil, List.append_nil] at hpre
  have hS4 : pre.length ≤ 4000 := by omega
  have hN : ((pre.length : Int) + 1).toNat = pre.length + 1 := by omega
  have hwn : IntKind.i64.wrap ((pre.length : Int) + 1) = pre.length + 1 := IntWalk.i64_in ((pre.length : Int) + 1) (by omega)
  repeat' (first
    | ((with_reducible (first
     | (refine PW.seq fun K1 hK1 => ?_) | (refine PW.region fun K2 hK2 => ?_) | ((refine hK3 _ ?_; clear hK3)) | ((refine opsP_nil ?_; refine hK2 _ ?_; clear hK2)) | (refine PW.block ?_) 
     | (refine PW.exit ?_) | ((refine hY1 ?_; clear hX1 hY1; try simp only [hb])) )))
    | (((with_reducible refine And.intro ?_ ?_); (focus (first | omega | (simp; done) | assumption))))
    | ((simp only [thenP, blockP, ↓reduceIte]; (try ((repeat (fail_if_success (with_reducible refine hK1 _ ?_)); clear hK1); (with_reducible refine hK1 _ ?_); clear hK1))))
    | (((first | (((with_reducible refine opsP_consD (d := 64) fun K3 hK3 => ?_); simp only [wantP, opP]; (with_reducible refine litX_box ?_))) | (((with_reducible refine opsP_cons fun K3 hK3 => ?_); simp only [wantP, opP, valP, Ur, Us])) | ((with_reducible refine PW.condM fun X1 Y1 hX1 hY1 => ?_)) | (skip)); simp (disch := omega) only [St.eval, St.put, upd_app, avOf, avOf1, cellsA, AV.okv, lenP, binP, intsP, intP, nilP, builtinP, isMapA, slA, putCells, Ua, Uc, Uf, Ug, Ut, V8, V9, Va, Ve, Int.cast_ofNat_Int, Vq, Vs, PmL, simprocAttr, PmT, h1, h5, h6, hlt', hN, hwn, cB_rep, cB_set, cB_len, List.length_replicate, Nat.mul_one, condP, condB_f]; try (with_reducible (first | exact co_refl _ | exact co_own _ _ _ | exact co_nilsB | exact co_nilsL _ _)))))
  (with_reducible refine PW.loop (fun nn s => ∃ (k : Nat) (now : List Bool), s.t 0 = .d (.str T) ∧ s.t 1 = .d (.str Q) ∧ s.t 5 = .own 0 1 (encL eI pre) ∧ s.t 8 = .d (.int .i64 pre.length) ∧ s.t 9 = .bsl 0 0 (pre.length + 1) (pre.length + 1) 1 ∧ s.t 10 = .d (.int .i64 k) ∧ s.n = 162 ∧ s.m = ⟨[some (4, cB now)], [some ⟨3, 1, pre.length⟩]⟩ ∧ now.length = pre.length + 1 ∧ k ≤ pre.length ∧ (∀ j, j ≤ pre.length → (now[j]? = some true ↔ j ≤ k)) ∧ (∀ j, j < k → pre[j]? = some 257) ∧ nn = pre.length - k) pre.length ?_ ?_)
  · exact ⟨0, (List.replicate (pre.length + 1) false).set 0 true, h0, h1, h5, rfl, rfl, rfl, rfl, rfl, by simp, Nat.zero_le _, ini0 _, fun j hj => absurd hj (by omega), rfl⟩
  rintro n2 ⟨t2, nn2, m2⟩ ⟨k, now, q0, q1, q5, q8, q9, q10, qn, qm, ql, qk, qi, qs, qnk⟩ - -
  simp only at q0 q1 q5 q8 q9 q10 qn qm
  subst qn qm qnk
  have hwk : IntKind.i64.wrap ((k : Int) + 1) = k + 1 := IntWalk.i64_in ((k : Int) + 1) (by omega)
  have hN1 : ((k : Int) + 1).toNat = k + 1 := by omega
  have hg : k < pre.length → pre[k]? = some (pre.getD k 0) := fun h => by rw [List.getD_eq_getElem?_getD, List.getElem?_eq_getElem h]; rfl
  obtain ⟨s, hs⟩ : ∃ s, pre.getD k 0 = s := ⟨_, rfl⟩
  rw [hs] at hg
  repeat' (first
    | ((with_reducible (first
     | (refine PW.seq fun K1 hK1 => ?_) | (refine PW.region fun K2 hK2 => ?_) | ((refine hK3 _ ?_; clear hK3)) | ((refine opsP_nil ?_; refine hK2 _ ?_; clear hK2)) | (refine PW.block ?_) | (refine PW.skip ?_)
     | (refine PW.exit ?_) | ((refine hX1 ?_; clear hX1 hY1; try simp only [hb])) | ((refine hY1 ?_; clear hX1 hY1; try simp only [hb])) )))
    | (((first | (with_reducible refine wantB_intro (fun hb => ?_) (fun hb => ?_)) | (with_reducible refine condB_intro (fun hb => ?_) (fun hb => ?_))) <;> ((try (have hp := hb; simp only [PmH] at hp)); try simp only [hb, Bool.not_true, Bool.not_false])))
    | (((with_reducible refine And.intro ?_ ?_); (focus (first | omega | (simp; done) | assumption))))
    | ((simp only [thenP, blockP, ↓reduceIte]; (try ((repeat (fail_if_success (with_reducible refine hK1 _ ?_)); clear hK1); (with_reducible refine hK1 _ ?_); clear hK1))))
    | (((first | ((with_reducible (first | refine opsP_consMt (d := ?_) (dj := ?_) (b := ?_) (r := ?_) ?_ ?_ (fun hb => ?_) (fun K3 hK3 => ?_) | refine opsP_consMf (d := ?_) (dj := ?_) (b := ?_) (r := ?_) ?_ ?_ (fun hb => ?_) (fun K3 hK3 => ?_))); rotate_left 3; (focus exact rfl); (focus (simp only [upd_app, simprocAttr]; exact rfl))) | ((with_reducible (first | refine opsP_consNt (d := ?_) (dj := ?_) (b := ?_) (r := ?_) (c := ?_) ?_ ?_ (fun hb => ?_) (fun K3 hK3 => ?_) | refine opsP_consNf (d := ?_) (dj := ?_) (b := ?_) (r := ?_) (c := ?_) ?_ ?_ (fun hb => ?_) (fun K3 hK3 => ?_))); rotate_left 4; (focus exact rfl); (focus (simp only [St.put, upd_app, iniT_app, simprocAttr, mrg_t, mrg_f]; exact rfl)))); (focus (simp only [opP, valP]; (try (simp only [Bool.and_eq_true, Bool.not_eq_true'] at hb)); (try (have hp := hb; simp only [PmH] at hp)); simp (disch := omega) only [St.eval, upd_app, avOf, avOf1, loadA, binP, intsP, intP, nilP, slA, Ur, Us, V2, V7, PmL, simprocAttr, PmT, q5, q10, hg, eI, mrg_t, hb]; (repeat' (first | (exact rfl) | ((refine And.intro ?_ ?_); (focus (exact rfl)); (exact rfl)) | (refine And.intro (by first | omega | (simp; done) | assumption) ?_))); done)); (try simp only [St.put, Nat.reduceLT, ↓reduceIte])))
    | (((first | (((with_reducible refine opsP_cons fun K3 hK3 => ?_); simp only [wantP, opP, valP])) | ((with_reducible refine PW.condM fun X1 Y1 hX1 hY1 => ?_)) | (skip)); simp (disch := omega) only [St.eval, St.put, upd_app, avOf, avOf1, cellsA, AV.okv, binP, intsP, intP, nilP, slA, putCells, Ua, Uc, Uf, Ug, V9, Int.cast_ofNat_Int, Vq, PmL, simprocAttr, PmT, q8, q9, q10, hwk, hN1, cB_set, cB_len, ql, Nat.mul_one, pick_and, condP]; try (with_reducible (first | exact co_refl _ | exact co_own _ _ _ | exact co_nilsB | exact co_nilsL _ _)))))
  · simp only [Bool.and_eq_true, decide_eq_true_eq] at hb
    have hlk : k < pre.length := by omega
    have g1 : ∀ j, j ≤ pre.length → ((now.set (k + 1) true)[j]? = some true ↔ j ≤ k + 1) := fun j hj => by rw [set_true (by omega), qi j hj]; omega
    have g2 : ∀ j, j < k + 1 → pre[j]? = some 257 := fun j hj => by
      by_cases hjk : j = k
      · subst hjk
        have h1 := hg hlk
        rw [hb.2] at h1
        exact h1
      · exact qs j (by omega)
    refine ⟨pre.length - (k + 1), by omega, k + 1, now.set (k + 1) true, ?_, ?_, ?_, ?_, ?_, ?_, ?_, ?_, by rw [List.length_set]; exact ql, by omega, g1, g2, rfl⟩
    all_goals (simp only [St.cut, Mem.cut, fg, upd_app, Nat.reduceEqDiff, ↓reduceIte, List.take_nil, List.map_nil, List.take_succ_cons, List.map_cons, Option.map_some, Nat.zero_lt_one, Int.natCast_add, Int.cast_ofNat_Int, q0, q1, q5, q8, q9, cB_fgs]; try rfl)
  have hnx : pre[k]? ≠ some 257 := fun h => by
    have hlk := (List.getElem?_eq_some_iff.1 h).1
    have h1 := hg hlk
    rw [h1] at h
    simp only [Option.some.injEq] at h
    simp only [Bool.and_eq_false_iff, decide_eq_false_iff_not] at hb
    rcases hb with hb | hb
    · omega
    · exact hb h
  obtain ⟨hcl0, hac0⟩ := ini_acc qk qi qs hnx
  clear qi qs hb hg
  (with_reducible refine PW.freezeS 9 0 0 (pre.length + 1) (pre.length + 1) 1 (xs := encL eB now) (b := (4, cB now)) ?_ ?_ ?_ ?_)
  · exact q9
  · exact rfl
  · exact view_cB (by decide) rfl ql
  (with_reducible refine PW.loop (fun nn s => ∃ (i : Nat) (now : List Bool), s.t 0 = .d (.str T) ∧ s.t 1 = .d (.str Q) ∧ s.t 5 = .own 0 1 (encL eI pre) ∧ s.t 8 = .d (.int .i64 pre.length) ∧ s.t 9 = .d (.sl 1 (encL eB now)) ∧ s.t 11 = .d (.int .i64 i) ∧ s.n = 162 ∧ s.m = ⟨[none], [some ⟨3, 1, pre.length⟩]⟩ ∧ now.length = pre.length + 1 ∧ Closed pre pre.length now ∧ (Acc pre now (T.drop i) ↔ likeM pre T = true) ∧ i ≤ T.length ∧ nn = T.length - i) T.length ?_ ?_)
  · exact ⟨0, now, q0, q1, q5, q8, rfl, rfl, rfl, rfl, ql, hcl0, hac0 T, Nat.zero_le _, rfl⟩
  clear hcl0 hac0 ql q0 q1 q5 q8 q9 q10 hnx hwk hN1 qk
  rintro n3 ⟨t3, nn3, m3⟩ ⟨i3, now, q0, q1, q5, q8, q9, q11, qn, qm, ql, hcl, hac, hi3, qnk⟩ - -
  simp only at q0 q1 q5 q8 q9 q11 qn qm
  subst qn qm qnk
  by_cases hl3 : (i3 : Int) < T.length
  · have hl3' := eq_true hl3
    obtain ⟨c, hc⟩ : ∃ c, T[i3]? = some c := ⟨_, List.getElem?_eq_getElem (by omega)⟩
    have hcr := rT c (List.mem_of_getElem? hc)
    rw [dropG hc] at hac
    repeat' (first
      | ((with_reducible (first
       | (refine PW.seq fun K1 hK1 => ?_) | (refine PW.region fun K2 hK2 => ?_) | ((refine hK3 _ ?_; clear hK3)) | ((refine opsP_nil ?_; refine hK2 _ ?_; clear hK2)) | (refine PW.block ?_) | (refine PW.skip ?_)
       | ((refine hX1 ?_; clear hX1 hY1; try simp only [hb])) )))
      | (((with_reducible refine And.intro ?_ ?_); (focus (first | omega | (simp; done) | assumption))))
      | ((simp only [thenP]; (try ((repeat (fail_if_success (with_reducible refine hK1 _ ?_)); clear hK1); (with_reducible refine hK1 _ ?_); clear hK1))))
      | (((first | (((with_reducible refine opsP_consD (d := 91) fun K3 hK3 => ?_); simp only [wantP, opP]; (with_reducible refine litX_box ?_))) | (((with_reducible refine opsP_cons fun K3 hK3 => ?_); simp only [wantP, opP, valP, Ur, Us])) | ((with_reducible refine PW.condM fun X1 Y1 hX1 hY1 => ?_)) | (skip)); simp (disch := omega) only [St.eval, St.put, upd_app, avOf, avOf1, lenP, binP, intsP, intP, nilP, builtinP, isMapA, slA, Uc, Uf, Ug, Ut, Uu, V9, Ve, Int.cast_ofNat_Int, Vs, PmL, simprocAttr, PmT, q0, q8, q11, hl3', hN, hwn, cB_rep, condP, condB_t]; try (with_reducible (first | exact co_refl _ | exact co_own _ _ _ | exact co_nilsB | exact co_nilsL _ _)))))
    (with_reducible refine PW.loop (fun nn s => ∃ (k : Nat) (next : List Bool), s.t 0 = .d (.str T) ∧ s.t 1 = .d (.str Q) ∧ s.t 5 = .own 0 1 (encL eI pre) ∧ s.t 8 = .d (.int .i64 pre.length) ∧ s.t 9 = .d (.sl 1 (encL eB now)) ∧ s.t 11 = .d (.int .i64 i3) ∧ s.t 12 = .bsl 1 0 (pre.length + 1) (pre.length + 1) 1 ∧ s.t 13 = .d (.int .i64 k) ∧ s.n = 162 ∧ s.m = ⟨[none, some (4, cB next)], [some ⟨3, 1, pre.length⟩]⟩ ∧ next.length = pre.length + 1 ∧ k ≤ pre.length ∧ StepA pre now c k next ∧ nn = pre.length - k) pre.length ?_ ?_)
    · exact ⟨0, List.replicate (pre.length + 1) false, q0, q1, q5, q8, q9, q11, rfl, rfl, rfl, rfl, by simp, Nat.zero_le _, stepA_0 (fun j hj h => by simp [List.getElem?_replicate] at h), rfl⟩
    rintro n4 ⟨t4, nn4, m4⟩ ⟨k, next, r0, r1, r5, r8, r9, r11, r12, r13, rn, rm, rl, rk, rst, rnk⟩ - -
    simp only at r0 r1 r5 r8 r9 r11 r12 r13 rn rm
    subst rn rm rnk
    by_cases hk : (k : Int) < pre.length
    · have hk' := eq_true hk
      have hwk : IntKind.i64.wrap ((k : Int) + 1) = k + 1 := IntWalk.i64_in ((k : Int) + 1) (by omega)
      have hN1 : ((k : Int) + 1).toNat = k + 1 := by omega
      have hwc : IntKind.i64.wrap c = c := IntWalk.i64_in c (by omega)
      obtain ⟨s, hs⟩ : ∃ s, pre[k]? = some s := ⟨_, List.getElem?_eq_getElem (by omega)⟩
      obtain ⟨b, hb⟩ : ∃ b, now[k]? = some b := ⟨_, List.getElem?_eq_getElem (by omega)⟩
      cases b with
      | false =>
        have st := stepA_n (a := false) (b := false) rl hs rst (by rw [hb]; simp) (by rw [hb]; simp)
        simp only [Bool.false_eq_true, ↓reduceIte] at st
        repeat' (first
          | ((with_reducible (first
           | (refine PW.seq fun K1 hK1 => ?_) | (refine PW.region fun K2 hK2 => ?_) | ((refine hK3 _ ?_; clear hK3)) | ((refine opsP_nil ?_; refine hK2 _ ?_; clear hK2)) | (refine PW.block ?_) | (refine PW.skip ?_)
           | ((refine hX1 ?_; clear hX1 hY1; try simp only [hb])) | ((refine hY1 ?_; clear hX1 hY1; try simp only [hb])) | ((refine opsO_nil ?_; refine hK2 _ ?_; clear hK2)) )))
          | (((with_reducible refine PW.drawR (id := 30) mixed [] [(0, true), (1, true), (2, true), (3, true), (4, true), (5, true), (6, true), (7, true), (8, true), (9, true), (10, true), (11, true), (12, true), (13, true), (14, true), (15, true), (16, true), (17, true), (18, true), (19, true), (20, true), (21, true)] (by kernel_rfl) (by decide) fun K2 hK2 => ?_)))
          | (((with_reducible refine And.intro ?_ ?_); (focus (first | omega | (simp; done) | assumption))))
          | ((simp only [thenP, blockP]; (try ((repeat (fail_if_success (with_reducible refine hK1 _ ?_)); clear hK1); (with_reducible refine hK1 _ ?_); clear hK1))))
          | (((first | ((with_reducible (first | refine opsP_consMt (d := ?_) (dj := ?_) (b := ?_) (r := ?_) ?_ ?_ (fun hb => ?_) (fun K3 hK3 => ?_) | refine opsP_consMf (d := ?_) (dj := ?_) (b := ?_) (r := ?_) ?_ ?_ (fun hb => ?_) (fun K3 hK3 => ?_))); rotate_left 3; (focus exact rfl); (focus (simp only [upd_app, simprocAttr]; exact rfl))) | ((with_reducible (first | refine opsP_consNt (d := ?_) (dj := ?_) (b := ?_) (r := ?_) (c := ?_) ?_ ?_ (fun hb => ?_) (fun K3 hK3 => ?_) | refine opsP_consNf (d := ?_) (dj := ?_) (b := ?_) (r := ?_) (c := ?_) ?_ ?_ (fun hb => ?_) (fun K3 hK3 => ?_))); rotate_left 4; (focus exact rfl); (focus (simp only [St.put, upd_app, iniT_app, simprocAttr, mrg_t, mrg_f]; exact rfl)))); (focus (simp only [opP, valP]; (try (simp only [Bool.and_eq_true, Bool.not_eq_true'] at hb)); (try (have hp := hb; simp only [PmH, beq_iff_eq, beq_eq_false_iff_ne, ne_eq] at hp)); simp (disch := omega) only [St.eval, upd_app, avOf, avOf1, binP, eqP, nilP, slA, PmL, simprocAttr, r5, r13, hb]; (repeat' (first | (exact rfl) | ((refine And.intro ?_ ?_); (focus (exact rfl)); (exact rfl)) | (refine And.intro (by first | omega | (simp; done) | assumption) ?_))); done)); (try simp only [St.put, Nat.reduceLT, ↓reduceIte, mrg_f])))
          | (((first | (((with_reducible refine opsP_cons fun K3 hK3 => ?_); simp only [wantP, opP, valP])) | (((with_reducible refine opsO_first (o := ?_) ?_ fun K3 hK3 => ?_); rotate_left 1; (focus (simp only [Uz, Ub, Ua] <;> rfl)); simp only [wantP, firstP, valP])) | ((with_reducible refine PW.condM fun X1 Y1 hX1 hY1 => ?_)) | (skip)); simp (disch := omega) only [wantB_ft, St.eval, St.put, upd_app, avOf, avOf1, loadA, binP, intsP, intP, eqP, nilP, slA, Ua, Ub, Uf, Ug, Ur, Us, Uz, V2, V4, V7, V9, PmL, simprocAttr, PmT, r5, r8, r9, r13, hk', hb, hwk, eB, condP, condB_t, condB_f, firstOk]; try (with_reducible (first | exact co_refl _ | exact co_own _ _ _ | exact co_nilsB | exact co_nilsL _ _)))))
        refine ⟨pre.length - (k + 1), by omega, k + 1, next, ?_, ?_, ?_, ?_, ?_, ?_, ?_, ?_, ?_, ?_, rl, by omega, st, rfl⟩
        all_goals (simp only [St.cut, Mem.cut, fg, upd_app, Nat.reduceEqDiff, ↓reduceIte, List.take_nil, List.map_nil, List.take_succ_cons, List.map_cons, Option.map_some, Option.map_none, Nat.reduceLT, Nat.zero_lt_one, Int.natCast_add, Int.cast_ofNat_Int, r0, r1, r5, r8, r9, r11, r12, cB_fgs]; try rfl)
      | true =>
        by_cases e7 : s = 257
        · subst e7
          have hcn : ((257 : Int) = c) = False := eq_false (by omega)
          have st := stepA_n (a := true) (b := false) rl hs rst (by rw [hb]; simp) (by rw [hb]; simp [okS]; omega)
          simp only [Bool.false_eq_true, ↓reduceIte] at st
          repeat' (first
            | ((with_reducible (first
             | (refine PW.seq fun K1 hK1 => ?_) | (refine PW.region fun K2 hK2 => ?_) | ((refine hK3 _ ?_; clear hK3)) | ((refine opsP_nil ?_; refine hK2 _ ?_; clear hK2)) | (refine PW.block ?_) | (refine PW.skip ?_)
             | ((refine hX1 ?_; clear hX1 hY1; try simp only [hb])) | ((refine hY1 ?_; clear hX1 hY1; try simp only [hb])) | ((refine opsO_nil ?_; refine hK2 _ ?_; clear hK2)) )))
            | (((with_reducible refine PW.drawR (id := 30) mixed [] [(0, true), (1, true), (2, true), (3, true), (4, true), (5, true), (6, true), (7, true), (8, true), (9, true), (10, true), (11, true), (12, true), (13, true), (14, true), (15, true), (16, true), (17, true), (18, true), (19, true), (20, true), (21, true)] (by kernel_rfl) (by decide) fun K2 hK2 => ?_)))
            | (((with_reducible refine And.intro ?_ ?_); (focus (first | omega | (simp; done) | assumption))))
            | ((simp only [thenP, blockP]; (try ((repeat (fail_if_success (with_reducible refine hK1 _ ?_)); clear hK1); (with_reducible refine hK1 _ ?_); clear hK1))))
            | (((first | ((with_reducible (first | refine opsP_consMt (d := ?_) (dj := ?_) (b := ?_) (r := ?_) ?_ ?_ (fun hb => ?_) (fun K3 hK3 => ?_) | refine opsP_consMf (d := ?_) (dj := ?_) (b := ?_) (r := ?_) ?_ ?_ (fun hb => ?_) (fun K3 hK3 => ?_))); rotate_left 3; (focus exact rfl); (focus (simp only [upd_app, simprocAttr]; exact rfl))) | ((with_reducible (first | refine opsP_consNt (d := ?_) (dj := ?_) (b := ?_) (r := ?_) (c := ?_) ?_ ?_ (fun hb => ?_) (fun K3 hK3 => ?_) | refine opsP_consNf (d := ?_) (dj := ?_) (b := ?_) (r := ?_) (c := ?_) ?_ ?_ (fun hb => ?_) (fun K3 hK3 => ?_))); rotate_left 4; (focus exact rfl); (focus (simp only [St.put, upd_app, iniT_app, simprocAttr, mrg_t, mrg_f]; exact rfl)))); (focus (simp only [opP, valP]; (try (simp only at hb)); (try (have hp := hb; simp only [PmH, beq_iff_eq, beq_eq_false_iff_ne, ne_eq] at hp)); simp (disch := omega) only [St.eval, upd_app, avOf, avOf1, loadA, binP, intsP, intP, nilP, slA, Ur, Us, V2, V7, PmL, simprocAttr, PmT, r5, r13, hs, eI]; (repeat' (first | (exact rfl) | ((refine And.intro ?_ ?_); (focus (exact rfl)); (exact rfl)) | (refine And.intro (by first | omega | (simp; done) | assumption) ?_))); done)); (try simp only [St.put, Nat.reduceLT, ↓reduceIte, mrg_t])))
            | (((first | (((with_reducible refine opsP_cons fun K3 hK3 => ?_); simp only [wantP, opP, valP])) | (((with_reducible refine opsO_first (o := ?_) ?_ fun K3 hK3 => ?_); rotate_left 1; (focus (simp only [Uz, Ub, Ua] <;> rfl)); simp only [wantP, firstP, valP])) | ((with_reducible refine PW.condM fun X1 Y1 hX1 hY1 => ?_)) | (skip)); simp (disch := omega) only [wantB_tt, wantB_ff, St.eval, St.put, upd_app, avOf, avOf1, cellsA, AV.okv, loadA, binP, intsP, intP, nilP, convP, isBsl, slA, putCells, Ua, Ub, Uc, Ud, Uf, Ug, Ur, Us, Uz, V2, V4, V7, V9, Int.cast_ofNat_Int, Vq, PmL, simprocAttr, PmT, r0, r5, r8, r9, r11, r12, r13, hk', hs, hb, hwk, eI, eB, hwc, hcn, hc, cB_set, cB_len, rl, Nat.mul_one, condP, condB_t, condB_f, firstOk]; try (with_reducible (first | exact co_refl _ | exact co_own _ _ _ | exact co_nilsB | exact co_nilsL _ _)))))
          refine ⟨pre.length - (k + 1), by omega, k + 1, next.set k true, ?_, ?_, ?_, ?_, ?_, ?_, ?_, ?_, ?_, ?_, by rw [List.length_set]; exact rl, by omega, st, rfl⟩
          all_goals (simp only [St.cut, Mem.cut, fg, upd_app, Nat.reduceEqDiff, ↓reduceIte, List.take_nil, List.map_nil, List.take_succ_cons, List.map_cons, Option.map_some, Option.map_none, Nat.reduceLT, Nat.zero_lt_one, Int.natCast_add, Int.cast_ofNat_Int, r0, r1, r5, r8, r9, r11, r12, cB_fgs]; try rfl)
        · have e7' := eq_false e7
          by_cases e6 : s = 256
          · subst e6
            have st := stepA_n (a := false) (b := true) rl hs rst (by rw [hb]; simp) (by rw [hb]; simp [okS])
            simp only [Bool.false_eq_true, ↓reduceIte] at st
            repeat' (first
              | ((with_reducible (first
               | (refine PW.seq fun K1 hK1 => ?_) | (refine PW.region fun K2 hK2 => ?_) | ((refine hK3 _ ?_; clear hK3)) | ((refine opsP_nil ?_; refine hK2 _ ?_; clear hK2)) | (refine PW.block ?_) | (refine PW.skip ?_)
               | ((refine hX1 ?_; clear hX1 hY1; try simp only [hb])) | ((refine hY1 ?_; clear hX1 hY1; try simp only [hb])) | ((refine opsO_nil ?_; refine hK2 _ ?_; clear hK2)) )))
              | (((with_reducible refine PW.drawR (id := 30) mixed [] [(0, true), (1, true), (2, true), (3, true), (4, true), (5, true), (6, true), (7, true), (8, true), (9, true), (10, true), (11, true), (12, true), (13, true), (14, true), (15, true), (16, true), (17, true), (18, true), (19, true), (20, true), (21, true)] (by kernel_rfl) (by decide) fun K2 hK2 => ?_)))
              | (((with_reducible refine And.intro ?_ ?_); (focus (first | omega | (simp; done) | assumption))))
              | ((simp only [thenP, blockP]; (try ((repeat (fail_if_success (with_reducible refine hK1 _ ?_)); clear hK1); (with_reducible refine hK1 _ ?_); clear hK1))))
              | (((first | ((with_reducible (first | refine opsP_consMt (d := ?_) (dj := ?_) (b := ?_) (r := ?_) ?_ ?_ (fun hb => ?_) (fun K3 hK3 => ?_) | refine opsP_consMf (d := ?_) (dj := ?_) (b := ?_) (r := ?_) ?_ ?_ (fun hb => ?_) (fun K3 hK3 => ?_))); rotate_left 3; (focus exact rfl); (focus (simp only [upd_app, simprocAttr]; exact rfl))) | ((with_reducible (first | refine opsP_consNt (d := ?_) (dj := ?_) (b := ?_) (r := ?_) (c := ?_) ?_ ?_ (fun hb => ?_) (fun K3 hK3 => ?_) | refine opsP_consNf (d := ?_) (dj := ?_) (b := ?_) (r := ?_) (c := ?_) ?_ ?_ (fun hb => ?_) (fun K3 hK3 => ?_))); rotate_left 4; (focus exact rfl); (focus (simp only [St.put, upd_app, iniT_app, simprocAttr, mrg_t, mrg_f]; exact rfl)))); (focus (simp only [opP, valP]; (try (simp only at hb)); (try (have hp := hb; simp only [PmH, beq_iff_eq, beq_eq_false_iff_ne, ne_eq] at hp)); simp (disch := omega) only [St.eval, upd_app, avOf, avOf1, loadA, binP, intsP, intP, nilP, slA, Ur, Us, V2, V7, PmL, simprocAttr, PmT, r5, r13, hs, eI]; (repeat' (first | (exact rfl) | ((refine And.intro ?_ ?_); (focus (exact rfl)); (exact rfl)) | (refine And.intro (by first | omega | (simp; done) | assumption) ?_))); done)); (try simp only [St.put, Nat.reduceLT, ↓reduceIte, mrg_t])))
              | (((first | (((with_reducible refine opsP_cons fun K3 hK3 => ?_); simp only [wantP, opP, valP])) | (((with_reducible refine opsO_first (o := ?_) ?_ fun K3 hK3 => ?_); rotate_left 1; (focus (simp only [Uz, Ub, Ua] <;> rfl)); simp only [wantP, firstP, valP])) | ((with_reducible refine PW.condM fun X1 Y1 hX1 hY1 => ?_)) | (skip)); simp (disch := omega) only [wantB_tt, wantB_tf, St.eval, St.put, upd_app, avOf, avOf1, cellsA, AV.okv, loadA, binP, intsP, intP, eqP, nilP, convP, isBsl, slA, putCells, Ua, Ub, Uc, Ud, Uf, Ug, Ur, Us, Uz, V2, V4, V7, V9, Int.cast_ofNat_Int, Vq, PmL, simprocAttr, PmT, r0, r5, r8, r9, r11, r12, r13, hk', hs, hb, hwk, hN1, eI, eB, cB_set, cB_len, rl, Nat.mul_one, condP, condB_t, condB_f, firstOk]; try (with_reducible (first | exact co_refl _ | exact co_own _ _ _ | exact co_nilsB | exact co_nilsL _ _)))))
            refine ⟨pre.length - (k + 1), by omega, k + 1, next.set (k + 1) true, ?_, ?_, ?_, ?_, ?_, ?_, ?_, ?_, ?_, ?_, by rw [List.length_set]; exact rl, by omega, st, rfl⟩
            all_goals (simp only [St.cut, Mem.cut, fg, upd_app, Nat.reduceEqDiff, ↓reduceIte, List.take_nil, List.map_nil, List.take_succ_cons, List.map_cons, Option.map_some, Option.map_none, Nat.reduceLT, Nat.zero_lt_one, Int.natCast_add, Int.cast_ofNat_Int, r0, r1, r5, r8, r9, r11, r12, cB_fgs]; try rfl)
          · have e6' := eq_false e6
            by_cases ec : s = c
            · have ec' := eq_true ec
              have st := stepA_n (a := false) (b := true) rl hs rst (by rw [hb]; simp [e7]) (by rw [hb]; simp [okS, ec])
              simp only [Bool.false_eq_true, ↓reduceIte] at st
              repeat' (first
                | ((with_reducible (first
                 | (refine PW.seq fun K1 hK1 => ?_) | (refine PW.region fun K2 hK2 => ?_) | ((refine hK3 _ ?_; clear hK3)) | ((refine opsP_nil ?_; refine hK2 _ ?_; clear hK2)) | (refine PW.block ?_) | (refine PW.skip ?_)
                 | ((refine hX1 ?_; clear hX1 hY1; try simp only [hb])) | ((refine hY1 ?_; clear hX1 hY1; try simp only [hb])) | ((refine opsO_nil ?_; refine hK2 _ ?_; clear hK2)) )))
                | (((with_reducible refine PW.drawR (id := 30) mixed [] [(0, true), (1, true), (2, true), (3, true), (4, true), (5, true), (6, true), (7, true), (8, true), (9, true), (10, true), (11, true), (12, true), (13, true), (14, true), (15, true), (16, true), (17, true), (18, true), (19, true), (20, true), (21, true)] (by kernel_rfl) (by decide) fun K2 hK2 => ?_)))
                | (((with_reducible refine And.intro ?_ ?_); (focus (first | omega | (simp; done) | assumption))))
                | ((simp only [thenP, blockP]; (try ((repeat (fail_if_success (with_reducible refine hK1 _ ?_)); clear hK1); (with_reducible refine hK1 _ ?_); clear hK1))))
                | (((first | ((with_reducible (first | refine opsP_consMt (d := ?_) (dj := ?_) (b := ?_) (r := ?_) ?_ ?_ (fun hb => ?_) (fun K3 hK3 => ?_) | refine opsP_consMf (d := ?_) (dj := ?_) (b := ?_) (r := ?_) ?_ ?_ (fun hb => ?_) (fun K3 hK3 => ?_))); rotate_left 3; (focus exact rfl); (focus (simp only [upd_app, simprocAttr]; exact rfl))) | ((with_reducible (first | refine opsP_consNt (d := ?_) (dj := ?_) (b := ?_) (r := ?_) (c := ?_) ?_ ?_ (fun hb => ?_) (fun K3 hK3 => ?_) | refine opsP_consNf (d := ?_) (dj := ?_) (b := ?_) (r := ?_) (c := ?_) ?_ ?_ (fun hb => ?_) (fun K3 hK3 => ?_))); rotate_left 4; (focus exact rfl); (focus (simp only [St.put, upd_app, iniT_app, simprocAttr, mrg_t, mrg_f]; exact rfl)))); (focus (simp only [opP, valP]; (try (simp only at hb)); (try (have hp := hb; simp only [PmH, beq_iff_eq, beq_eq_false_iff_ne, ne_eq] at hp)); simp (disch := omega) only [St.eval, upd_app, avOf, avOf1, loadA, binP, intsP, intP, nilP, slA, Ur, Us, V2, V7, PmL, simprocAttr, PmT, r5, r13, hs, eI, e7']; (repeat' (first | (exact rfl) | ((refine And.intro ?_ ?_); (focus (exact rfl)); (exact rfl)) | (refine And.intro (by first | omega | (simp; done) | assumption) ?_))); done)); (try simp only [St.put, Nat.reduceLT, ↓reduceIte, mrg_t])))
                | (((first | (((with_reducible refine opsP_cons fun K3 hK3 => ?_); simp only [wantP, opP, valP])) | (((with_reducible refine opsO_first (o := ?_) ?_ fun K3 hK3 => ?_); rotate_left 1; (focus (simp only [Uz, Ub, Ua] <;> rfl)); simp only [wantP, firstP, valP])) | ((with_reducible refine PW.condM fun X1 Y1 hX1 hY1 => ?_)) | (skip)); simp (disch := omega) only [wantB_tt, wantB_ff, St.eval, St.put, upd_app, avOf, avOf1, cellsA, AV.okv, loadA, binP, intsP, intP, nilP, convP, isBsl, slA, putCells, Ua, Ub, Uc, Ud, Uf, Ug, Ur, Us, Uz, V2, V4, V7, V9, Int.cast_ofNat_Int, Vq, PmL, simprocAttr, PmT, r0, r5, r8, r9, r11, r12, r13, hk', hs, hb, hwk, hN1, eI, eB, hwc, hc, e6', ec', cB_set, cB_len, rl, Nat.mul_one, condP, condB_t, condB_f, firstOk]; try (with_reducible (first | exact co_refl _ | exact co_own _ _ _ | exact co_nilsB | exact co_nilsL _ _)))))
              refine ⟨pre.length - (k + 1), by omega, k + 1, next.set (k + 1) true, ?_, ?_, ?_, ?_, ?_, ?_, ?_, ?_, ?_, ?_, by rw [List.length_set]; exact rl, by omega, st, rfl⟩
              all_goals (simp only [St.cut, Mem.cut, fg, upd_app, Nat.reduceEqDiff, ↓reduceIte, List.take_nil, List.map_nil, List.take_succ_cons, List.map_cons, Option.map_some, Option.map_none, Nat.reduceLT, Nat.zero_lt_one, Int.natCast_add, Int.cast_ofNat_Int, r0, r1, r5, r8, r9, r11, r12, cB_fgs]; try rfl)
            · have ec' := eq_false ec
              have st := stepA_n (a := false) (b := false) rl hs rst (by rw [hb]; simp [e7]) (by rw [hb]; simp [okS, ec, e6])
              simp only [Bool.false_eq_true, ↓reduceIte] at st
              repeat' (first
                | ((with_reducible (first
                 | (refine PW.seq fun K1 hK1 => ?_) | (refine PW.region fun K2 hK2 => ?_) | ((refine hK3 _ ?_; clear hK3)) | ((refine opsP_nil ?_; refine hK2 _ ?_; clear hK2)) | (refine PW.block ?_) | (refine PW.skip ?_)
                 | ((refine hX1 ?_; clear hX1 hY1; try simp only [hb])) | ((refine hY1 ?_; clear hX1 hY1; try simp only [hb])) | ((refine opsO_nil ?_; refine hK2 _ ?_; clear hK2)) )))
                | (((with_reducible refine PW.drawR (id := 30) mixed [] [(0, true), (1, true), (2, true), (3, true), (4, true), (5, true), (6, true), (7, true), (8, true), (9, true), (10, true), (11, true), (12, true), (13, true), (14, true), (15, true), (16, true), (17, true), (18, true), (19, true), (20, true), (21, true)] (by kernel_rfl) (by decide) fun K2 hK2 => ?_)))
                | (((with_reducible refine And.intro ?_ ?_); (focus (first | omega | (simp; done) | assumption))))
                | ((simp only [thenP, blockP]; (try ((repeat (fail_if_success (with_reducible refine hK1 _ ?_)); clear hK1); (with_reducible refine hK1 _ ?_); clear hK1))))
                | (((first | ((with_reducible (first | refine opsP_consMt (d := ?_) (dj := ?_) (b := ?_) (r := ?_) ?_ ?_ (fun hb => ?_) (fun K3 hK3 => ?_) | refine opsP_consMf (d := ?_) (dj := ?_) (b := ?_) (r := ?_) ?_ ?_ (fun hb => ?_) (fun K3 hK3 => ?_))); rotate_left 3; (focus exact rfl); (focus (simp only [upd_app, simprocAttr]; exact rfl))) | ((with_reducible (first | refine opsP_consNt (d := ?_) (dj := ?_) (b := ?_) (r := ?_) (c := ?_) ?_ ?_ (fun hb => ?_) (fun K3 hK3 => ?_) | refine opsP_consNf (d := ?_) (dj := ?_) (b := ?_) (r := ?_) (c := ?_) ?_ ?_ (fun hb => ?_) (fun K3 hK3 => ?_))); rotate_left 4; (focus exact rfl); (focus (simp only [St.put, upd_app, iniT_app, simprocAttr, mrg_t, mrg_f]; exact rfl)))); (focus (simp only [opP, valP]; (try (simp only at hb)); (try (have hp := hb; simp only [PmH, beq_iff_eq, beq_eq_false_iff_ne, ne_eq] at hp)); simp (disch := omega) only [St.eval, upd_app, avOf, avOf1, loadA, binP, intsP, intP, nilP, slA, Ur, Us, V2, V7, PmL, simprocAttr, PmT, r5, r13, hs, eI, e7']; (repeat' (first | (exact rfl) | ((refine And.intro ?_ ?_); (focus (exact rfl)); (exact rfl)) | (refine And.intro (by first | omega | (simp; done) | assumption) ?_))); done)); (try simp only [St.put, Nat.reduceLT, ↓reduceIte, mrg_t])))
                | (((first | (((with_reducible refine opsP_cons fun K3 hK3 => ?_); simp only [wantP, opP, valP])) | (((with_reducible refine opsO_first (o := ?_) ?_ fun K3 hK3 => ?_); rotate_left 1; (focus (simp only [Uz, Ub, Ua] <;> rfl)); simp only [wantP, firstP, valP])) | ((with_reducible refine PW.condM fun X1 Y1 hX1 hY1 => ?_)) | (skip)); simp (disch := omega) only [wantB_tt, wantB_ff, St.eval, St.put, upd_app, avOf, avOf1, loadA, binP, intsP, intP, nilP, convP, isBsl, slA, Ua, Ub, Uf, Ug, Ur, Us, Uz, V2, V4, V7, V9, PmL, simprocAttr, PmT, r0, r5, r8, r9, r11, r13, hk', hs, hb, hwk, eI, eB, hwc, hc, e6', ec', condP, condB_t, condB_f, firstOk]; try (with_reducible (first | exact co_refl _ | exact co_own _ _ _ | exact co_nilsB | exact co_nilsL _ _)))))
              refine ⟨pre.length - (k + 1), by omega, k + 1, next, ?_, ?_, ?_, ?_, ?_, ?_, ?_, ?_, ?_, ?_, rl, by omega, st, rfl⟩
              all_goals (simp only [St.cut, Mem.cut, fg, upd_app, Nat.reduceEqDiff, ↓reduceIte, List.take_nil, List.map_nil, List.take_succ_cons, List.map_cons, Option.map_some, Option.map_none, Nat.reduceLT, Nat.zero_lt_one, Int.natCast_add, Int.cast_ofNat_Int, r0, r1, r5, r8, r9, r11, r12, cB_fgs]; try rfl)
    have hk' := eq_false hk
    have hkn : k = pre.length := by omega
    subst hkn
    repeat' (first
      | ((with_reducible (first
       | (refine PW.seq fun K1 hK1 => ?_) | (refine PW.region fun K2 hK2 => ?_) | ((refine hK3 _ ?_; clear hK3)) | ((refine opsP_nil ?_; refine hK2 _ ?_; clear hK2)) | (refine PW.block ?_) 
       | (refine PW.exit ?_) | ((refine hY1 ?_; clear hX1 hY1; try simp only [hb])) )))
      | ((simp only [thenP, blockP, ↓reduceIte]; (try ((repeat (fail_if_success (with_reducible refine hK1 _ ?_)); clear hK1); (with_reducible refine hK1 _ ?_); clear hK1))))
      | (((first | (((with_reducible refine opsP_cons fun K3 hK3 => ?_); simp only [wantP, opP, valP])) | ((with_reducible refine PW.condM fun X1 Y1 hX1 hY1 => ?_)) | (skip)); simp (disch := omega) only [St.eval, St.put, upd_app, avOf, avOf1, binP, intsP, intP, nilP, slA, Uc, Uf, Ug, V9, PmL, simprocAttr, r8, r13, hk', condP, condB_f]; try (with_reducible (first | exact co_refl _ | exact co_own _ _ _ | exact co_nilsB | exact co_nilsL _ _)))))
    have hA := fun t => stepA_acc (by omega) rst hcl t
    (with_reducible refine PW.loop (fun nn s => ∃ (k : Nat) (nx : List Bool), s.t 0 = .d (.str T) ∧ s.t 1 = .d (.str Q) ∧ s.t 5 = .own 0 1 (encL eI pre) ∧ s.t 8 = .d (.int .i64 pre.length) ∧ s.t 11 = .d (.int .i64 i3) ∧ s.t 12 = .bsl 1 0 (pre.length + 1) (pre.length + 1) 1 ∧ s.t 14 = .d (.int .i64 k) ∧ s.n = 162 ∧ s.m = ⟨[none, some (4, cB nx)], [some ⟨3, 1, pre.length⟩]⟩ ∧ nx.length = pre.length + 1 ∧ k ≤ pre.length ∧ Closed pre k nx ∧ (∀ t, Acc pre nx t ↔ Acc pre next t) ∧ nn = pre.length - k) pre.length ?_ ?_)
    · exact ⟨0, next, r0, r1, r5, r8, r11, r12, rfl, rfl, rfl, rl, Nat.zero_le _, fun j hj => absurd hj (by omega), fun _ => Iff.rfl, rfl⟩
    rintro n5 ⟨t5, nn5, m5⟩ ⟨k, nx, p0, p1, p5, p8, p11, p12, p14, pn, pm, pl, pk, pcl, pac, pnk⟩ - -
    simp only at p0 p1 p5 p8 p11 p12 p14 pn pm
    subst pn pm pnk
    by_cases hk2 : (k : Int) < pre.length
    · have hk2' := eq_true hk2
      have hwk : IntKind.i64.wrap ((k : Int) + 1) = k + 1 := IntWalk.i64_in ((k : Int) + 1) (by omega)
      have hN1 : ((k : Int) + 1).toNat = k + 1 := by omega
      obtain ⟨s, hs⟩ : ∃ s, pre[k]? = some s := ⟨_, List.getElem?_eq_getElem (by omega)⟩
      obtain ⟨b, hb⟩ : ∃ b, nx[k]? = some b := ⟨_, List.getElem?_eq_getElem (by omega)⟩
      have hbd := cB_drop hb
      by_cases hbs : b = true ∧ s = 257
      · obtain ⟨rfl, rfl⟩ := hbs
        obtain ⟨s1, s2⟩ := stepB_n (a := true) pl hs pcl (by rw [hb]; simp)
        simp only [↓reduceIte] at s1 s2
        repeat' (first
          | ((with_reducible (first
           | (refine PW.seq fun K1 hK1 => ?_) | (refine PW.region fun K2 hK2 => ?_) | ((refine hK3 _ ?_; clear hK3)) | ((refine opsP_nil ?_; refine hK2 _ ?_; clear hK2)) | (refine PW.block ?_) | (refine PW.skip ?_)
           | ((refine hX1 ?_; clear hX1 hY1; try simp only [hb])) )))
          | (((with_reducible refine And.intro ?_ ?_); (focus (first | omega | (simp; done) | assumption))))
          | ((simp only [thenP, blockP]; (try ((repeat (fail_if_success (with_reducible refine hK1 _ ?_)); clear hK1); (with_reducible refine hK1 _ ?_); clear hK1))))
          | (((first | ((with_reducible (first | refine opsP_consMt (d := ?_) (dj := ?_) (b := ?_) (r := ?_) ?_ ?_ (fun hb => ?_) (fun K3 hK3 => ?_) | refine opsP_consMf (d := ?_) (dj := ?_) (b := ?_) (r := ?_) ?_ ?_ (fun hb => ?_) (fun K3 hK3 => ?_))); rotate_left 3; (focus exact rfl); (focus (simp only [upd_app, simprocAttr]; exact rfl))) | ((with_reducible (first | refine opsP_consNt (d := ?_) (dj := ?_) (b := ?_) (r := ?_) (c := ?_) ?_ ?_ (fun hb => ?_) (fun K3 hK3 => ?_) | refine opsP_consNf (d := ?_) (dj := ?_) (b := ?_) (r := ?_) (c := ?_) ?_ ?_ (fun hb => ?_) (fun K3 hK3 => ?_))); rotate_left 4; (focus exact rfl); (focus (simp only [St.put, upd_app, iniT_app, simprocAttr, mrg_t, mrg_f]; exact rfl)))); (focus (simp only [opP, valP]; (try (simp only at hb)); (try (have hp := hb; simp only [PmH, beq_iff_eq, beq_eq_false_iff_ne, ne_eq] at hp)); simp (disch := omega) only [St.eval, upd_app, avOf, avOf1, loadA, binP, intsP, intP, nilP, slA, Ur, Us, V2, V7, PmL, simprocAttr, PmT, p5, p14, hs, eI]; (repeat' (first | (exact rfl) | ((refine And.intro ?_ ?_); (focus (exact rfl)); (exact rfl)) | (refine And.intro (by first | omega | (simp; done) | assumption) ?_))); done)); (try simp only [St.put, Nat.reduceLT, ↓reduceIte, mrg_t])))
          | (((first | (((with_reducible refine opsP_cons fun K3 hK3 => ?_); simp only [wantP, opP, valP])) | ((with_reducible refine PW.condM fun X1 Y1 hX1 hY1 => ?_)) | (skip)); simp (disch := omega) only [St.eval, St.put, upd_app, avOf, avOf1, cellsA, AV.okv, loadA, binP, intsP, intP, nilP, slA, putCells, Ua, Ub, Uc, Ud, Uf, Ug, V7, V9, Int.cast_ofNat_Int, Vq, PmL, simprocAttr, PmT, p8, p12, p14, hk2', hbd, hwk, hN1, cB_set, cB_len, pl, Nat.mul_one, condP, condB_t]; try (with_reducible (first | exact co_refl _ | exact co_own _ _ _ | exact co_nilsB | exact co_nilsL _ _)))))
        refine ⟨pre.length - (k + 1), by omega, k + 1, nx.set (k + 1) true, ?_, ?_, ?_, ?_, ?_, ?_, ?_, ?_, ?_, by rw [List.length_set]; exact pl, by omega, s1, fun t => (s2 t).trans (pac t), rfl⟩
        all_goals (simp only [St.cut, Mem.cut, fg, upd_app, Nat.reduceEqDiff, ↓reduceIte, List.take_nil, List.map_nil, List.take_succ_cons, List.map_cons, Option.map_some, Option.map_none, Nat.reduceLT, Nat.zero_lt_one, Int.natCast_add, Int.cast_ofNat_Int, p0, p1, p5, p8, p11, p12, cB_fgs]; try rfl)
      · have hbs' : (b && decide (s = 257)) = false := by
          cases b
          · rfl
          · simp only [Bool.true_and, decide_eq_false_iff_not]; exact fun h => hbs ⟨rfl, h⟩
        obtain ⟨s1, s2⟩ := stepB_n (a := false) pl hs pcl (by rw [hb]; simp; intro h; simpa [h] using hbs')
        simp only [Bool.false_eq_true, ↓reduceIte] at s1 s2
        repeat' (first
          | ((with_reducible (first
           | (refine PW.seq fun K1 hK1 => ?_) | (refine PW.region fun K2 hK2 => ?_) | ((refine hK3 _ ?_; clear hK3)) | ((refine opsP_nil ?_; refine hK2 _ ?_; clear hK2)) | (refine PW.block ?_) | (refine PW.skip ?_)
           | ((refine hX1 ?_; clear hX1 hY1; try simp only [hb])) | ((refine hY1 ?_; clear hX1 hY1; try simp only [hb])) )))
          | (((with_reducible refine And.intro ?_ ?_); (focus (first | omega | (simp; done) | assumption))))
          | ((simp only [thenP, blockP]; (try ((repeat (fail_if_success (with_reducible refine hK1 _ ?_)); clear hK1); (with_reducible refine hK1 _ ?_); clear hK1))))
          | (((first | ((with_reducible (first | refine opsP_consMt (d := ?_) (dj := ?_) (b := ?_) (r := ?_) ?_ ?_ (fun hb => ?_) (fun K3 hK3 => ?_) | refine opsP_consMf (d := ?_) (dj := ?_) (b := ?_) (r := ?_) ?_ ?_ (fun hb => ?_) (fun K3 hK3 => ?_))); rotate_left 3; (focus exact rfl); (focus (simp only [upd_app, simprocAttr]; exact rfl))) | ((with_reducible (first | refine opsP_consNt (d := ?_) (dj := ?_) (b := ?_) (r := ?_) (c := ?_) ?_ ?_ (fun hb => ?_) (fun K3 hK3 => ?_) | refine opsP_consNf (d := ?_) (dj := ?_) (b := ?_) (r := ?_) (c := ?_) ?_ ?_ (fun hb => ?_) (fun K3 hK3 => ?_))); rotate_left 4; (focus exact rfl); (focus (simp only [St.put, upd_app, iniT_app, simprocAttr, mrg_t, mrg_f]; exact rfl)))); (focus (simp only [opP, valP]; (try (simp only [Bool.and_eq_true, Bool.not_eq_true'] at hb)); (try (have hp := hb; simp only [PmH, beq_iff_eq, beq_eq_false_iff_ne, ne_eq] at hp)); simp (disch := omega) only [St.eval, upd_app, avOf, avOf1, loadA, binP, intsP, intP, nilP, slA, Ur, Us, V2, V7, PmL, simprocAttr, PmT, p5, p14, hs, eI, mrg_t, hb]; (repeat' (first | (exact rfl) | ((refine And.intro ?_ ?_); (focus (exact rfl)); (exact rfl)) | (refine And.intro (by first | omega | (simp; done) | assumption) ?_))); done)); (try simp only [St.put, Nat.reduceLT, ↓reduceIte])))
          | (((first | (((with_reducible refine opsP_cons fun K3 hK3 => ?_); simp only [wantP, opP, valP])) | ((with_reducible refine PW.condM fun X1 Y1 hX1 hY1 => ?_)) | (skip)); simp (disch := omega) only [St.eval, St.put, upd_app, avOf, avOf1, loadA, binP, intsP, intP, nilP, slA, Ua, Ub, Uf, Ug, V7, V9, Int.cast_ofNat_Int, Vq, PmL, simprocAttr, PmT, p8, p12, p14, hk2', hbd, hwk, Nat.mul_one, hbs', pick_and, condP, condB_t, condB_f]; try (with_reducible (first | exact co_refl _ | exact co_own _ _ _ | exact co_nilsB | exact co_nilsL _ _)))))
        refine ⟨pre.length - (k + 1), by omega, k + 1, nx, ?_, ?_, ?_, ?_, ?_, ?_, ?_, ?_, ?_, pl, by omega, s1, pac, rfl⟩
        all_goals (simp only [St.cut, Mem.cut, fg, upd_app, Nat.reduceEqDiff, ↓reduceIte, List.take_nil, List.map_nil, List.take_succ_cons, List.map_cons, Option.map_some, Option.map_none, Nat.reduceLT, Nat.zero_lt_one, Int.natCast_add, Int.cast_ofNat_Int, p0, p1, p5, p8, p11, p12, cB_fgs]; try rfl)
    have hk2' := eq_false hk2
    have hkn : k = pre.length := by omega
    subst hkn
    have hwi : IntKind.i64.wrap ((i3 : Int) + 1) = i3 + 1 := IntWalk.i64_in ((i3 : Int) + 1) (by omega)
    repeat' (first
      | (((with_reducible refine PW.freezeR (id := 37) 12 1 0 (pre.length + 1) (pre.length + 1) 1 (xs := encL eB nx) (b := (4, cB nx)) ?_ ?_ ?_ ?_); (focus (simp only [upd_app, simprocAttr, p12])); (focus (exact rfl)); (focus (exact view_cB (by decide) rfl pl))))
      | ((with_reducible (first
       | (refine PW.seq fun K1 hK1 => ?_) | (refine PW.region fun K2 hK2 => ?_) | ((refine hK3 _ ?_; clear hK3)) | ((refine opsP_nil ?_; refine hK2 _ ?_; clear hK2)) 
       | (refine PW.exit ?_) | ((refine hY1 ?_; clear hX1 hY1; try simp only [hb])) )))
      | ((simp only [thenP, blockP, ↓reduceIte]; (try ((repeat (fail_if_success (with_reducible refine hK1 _ ?_)); clear hK1); (with_reducible refine hK1 _ ?_); clear hK1))))
      | (((first | (((with_reducible refine opsP_cons fun K3 hK3 => ?_); simp only [wantP, opP, valP])) | ((with_reducible refine PW.condM fun X1 Y1 hX1 hY1 => ?_)) | (skip)); simp (disch := omega) only [St.eval, St.put, upd_app, avOf, avOf1, binP, intsP, intP, nilP, slA, Uc, Ud, Uf, Ug, V9, PmL, simprocAttr, p8, p11, p14, hk2', hwi, condP, condB_f]; try (with_reducible (first | exact co_refl _ | exact co_own _ _ _ | exact co_nilsB | exact co_nilsL _ _)))))
    refine ⟨T.length - (i3 + 1), by omega, i3 + 1, nx, ?_, ?_, ?_, ?_, ?_, ?_, ?_, ?_, pl, pcl, ((pac _).trans ((hA _).trans hac)), by omega, rfl⟩
    all_goals (simp only [St.cut, Mem.cut, fg, upd_app, Nat.reduceEqDiff, ↓reduceIte, List.take_nil, List.map_nil, List.take_succ_cons, List.take_zero, List.map_cons, Option.map_none, Nat.zero_lt_one, Int.natCast_add, Int.cast_ofNat_Int, p0, p1, p5, p8]; try rfl)
  have hl3' := eq_false hl3
  rw [List.drop_eq_nil_of_le (by omega), acc_end hcl] at hac
  obtain ⟨b, hb⟩ : ∃ b, now[pre.length]? = some b := ⟨_, List.getElem?_eq_getElem (by omega)⟩
  repeat' (first
    | ((with_reducible (first
     | (refine PW.seq fun K1 hK1 => ?_) | (refine PW.region fun K2 hK2 => ?_) | ((refine hK3 _ ?_; clear hK3)) | ((refine opsP_nil ?_; refine hK2 _ ?_; clear hK2)) 
     | (refine PW.exit ?_) | (refine PW.ret ?_) | ((refine hY1 ?_; clear hX1 hY1; try simp only [hb])) )))
    | (((with_reducible refine And.intro ?_ ?_); (focus (first | omega | (simp; done) | assumption))))
    | ((simp only [thenP, blockP, ↓reduceIte]; (try ((repeat (fail_if_success (with_reducible refine hK1 _ ?_)); clear hK1); (with_reducible refine hK1 _ ?_); clear hK1))))
    | (((first | (((with_reducible refine opsP_cons fun K3 hK3 => ?_); simp only [wantP, opP, valP, Ur, Us])) | ((with_reducible refine PW.condM fun X1 Y1 hX1 hY1 => ?_)) | (skip)); simp (disch := omega) only [St.eval, St.put, upd_app, loadA, lenP, binP, intsP, intP, nilP, builtinP, isMapA, slA, Ur, Us, V2, V7, Ve, PmL, simprocAttr, PmT, q0, q8, q9, q11, hl3', hb, eB, retQ, resP, tupA, fg, condP, condB_f]; try (with_reducible (first | exact co_refl _ | exact co_own _ _ _ | exact co_nilsB | exact co_nilsL _ _)))))
  refine co_eq (congrArg (fun b => AV.d (.bool b)) ?_)
  rw [← hpre, Bool.eq_iff_iff, ← hac, hb]
  simp
end PM
end Go.Proofs.YtndomnknjlihhaaDoor
