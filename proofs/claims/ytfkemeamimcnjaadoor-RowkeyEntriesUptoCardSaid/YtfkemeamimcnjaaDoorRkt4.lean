/- rowkey in the abstract: TakeRow. -/
import Derived.Test.YtfkemeamimcnjaaDoorRkt3
namespace Go.Proofs.YtfkemeamimcnjaaDoor
open Go.RowKit
set_option maxRecDepth 100000
namespace PM
theorem PW.freezeR {P : Program} {id : Nat} {l : List Oper} {Q : Exit → St → Prop} {s : St} (i bid off n cap k : Nat) {xs : List (List DV)} {b : TypeId × List AV} (hi : s.t i = .bsl bid off n cap k) (hb : s.m.box[bid]? = some (some b)) (hv : viewA s.m (.bsl bid off n 0 k) = .d (.sl k xs))
    (h : PW P (.region id l.toArray false) Q ⟨upd s.t i (.d (.sl k xs)), s.n, ⟨s.m.box.set bid none, s.m.row⟩⟩) : PW P (.region id l.toArray false) Q s := PW.freezeS i bid off n cap k hi hb hv h
def z4 : XV := ⟨0, false, 0, []⟩
/-- the columns that are not of the key, off a value's bytes -/
def restS (key : List Int) (k : Nat) : List Col → List XV × Rdr → List XV × Rdr
  | [], x => x
  | c :: C, x => restS key (k + 1) C (if key.contains (k : Int) = true then x else (x.1.set k (valS Codec.takeTextF 0 c.ty x.2).1, (valS Codec.takeTextF 0 c.ty x.2).2))
theorem restS_snoc (key : List Int) (c : Col) : ∀ (C : List Col) (k : Nat) (x : List XV × Rdr), restS key k (C ++ [c]) x =
    if key.contains ((k + C.length : Nat) : Int) = true then restS key k C x else ((restS key k C x).1.set (k + C.length) (valS Codec.takeTextF 0 c.ty (restS key k C x).2).1, (valS Codec.takeTextF 0 c.ty (restS key k C x).2).2)
  | [], k, x => rfl
  | d :: C, k, x => by
    rw [List.cons_append]
    unfold restS
    rw [restS_snoc key c C (k + 1), List.length_cons, show k + 1 + C.length = k + (C.length + 1) by omega]
theorem restS_len (key : List Int) : ∀ (C : List Col) (k : Nat) (x : List XV × Rdr), (restS key k C x).1.length = x.1.length ∧ (restS key k C x).2.1.length ≤ x.2.1.length
  | [], k, x => ⟨rfl, Nat.le_refl _⟩
  | d :: C, k, x => by
    unfold restS
    have ih := restS_len key C (k + 1) (if key.contains (k : Int) = true then x else (x.1.set k (valS Codec.takeTextF 0 d.ty x.2).1, (valS Codec.takeTextF 0 d.ty x.2).2))
    split at ih
    · rename_i h; rw [if_pos h]; exact ih
    · rename_i h
      rw [if_neg h]
      have hv := valS_len Codec.takeTextF 0 d.ty x.2
      simp only [List.length_set] at ih
      exact ⟨ih.1, Nat.le_trans ih.2 hv⟩
/-- what is read: the key's columns, then the others -/
def read1 (T : Tb) (K : List Int) : List XV × Rdr := keysS T T.key (List.replicate T.cols.length z4, K.drop 17, false)
def read2 (T : Tb) (K V : List Int) : List XV × Rdr := restS T.key 0 T.cols ((read1 T K).1, V, false)
def takeRowS (T : Tb) (K V : List Int) : List XV × Int :=
  if tabled T T.key = false then ([], 1) else if (read1 T K).2.2 = true ∨ (read2 T K V).2.2 = true ∨ (rowKV T (read2 T K V).1) ≠ (K, V, 0) then ([], 200) else ((read2 T K V).1, 0)
def rowR (x : List XV × Int) : AV := .tup [vl x.1, .d (.int .i64 x.2)]
theorem co_row0 (n : Int) : Co (.tup [.nils, .d (.int .i64 n)]) (.tup [vl [], .d (.int .i64 n)]) := by
  have h : Co .nils (vl []) := co_nilsL _ _
  unfold Co Cos
  refine ⟨_, rfl, _, _, rfl, h, ?_⟩
  unfold Cos
  refine ⟨_, _, rfl, co_refl _, ?_⟩
  unfold Cos
  rfl
theorem pEqual (l m : List Int) : Pure Tryd.prog 49 [bs l, bs m] (.d (.bool (decide (l = m)))) := by
  refine pure_intro Tryd.func49 rfl rfl rfl 10 rfl (fun hh => ?_)
  repeat' (first
    | ((with_reducible (first
     | (refine PW.seq fun K1 hK1 => ?_) | (refine PW.region fun K2 hK2 => ?_) | ((refine hK3 _ ?_; clear hK3)) | ((refine opsP_nil ?_; refine hK2 _ ?_; clear hK2)) 
     | (refine PW.ret ?_) )))
    | ((simp only [thenP]; (try ((repeat (fail_if_success (with_reducible refine hK1 _ ?_)); clear hK1); (with_reducible refine hK1 _ ?_); clear hK1))))
    | (((first | (((with_reducible refine opsP_cons fun K3 hK3 => ?_); simp only [wantP, opP, valP])) | (skip)); simp (disch := omega) only [St.eval, St.put, upd_app, iniT_app, avOf, avOf1, nom, binP, strP, nilP, convP, slA, U7, U8, Ve, PmL, simprocAttr, PmT, retQ, resP, tupA, fg]; try (with_reducible (first | exact co_refl _ | exact co_own _ _ _ | exact co_nilsB | exact co_nilsL _ _)))))
set_option maxHeartbeats 8000000 in
theorem pTakeRow (T : Tb) (K V : List Int) (hT : T.cols.length ≤ 1048576 ∧ T.key.length ≤ 1048576) (hV : V.length ≤ 1048576) (hKl : K.length ≤ 1048576) : Pure Tryd.prog 13 [T.v, .agg [bs K, bs V]] (rowR (takeRowS T K V)) := by
  refine pure_intro Tryd.func13 rfl rfl rfl 106 rfl (fun hh => ?_)
  have hml : maxLen = 9223372036854775807 := rfl
  have hC := pTabled T T.key
  cases ht : tabled T T.key
  · have hu : takeRowS T K V = ([], 1) := by unfold takeRowS; rw [if_pos ht]
    rw [ht] at hC
    rw [hu]
    obtain ⟨tid, tnm, tcols, tkey, tix⟩ := T
    unfold Tb.v Tb.c at hC
    repeat' (first
      | ((with_reducible (first
       | (refine PW.seq fun K1 hK1 => ?_) | (refine PW.region fun K2 hK2 => ?_) | ((refine hK3 _ ?_; clear hK3)) | ((refine opsP_nil ?_; refine hK2 _ ?_; clear hK2)) 
       | (refine PW.ret ?_) | ((refine hX1 ?_; clear hX1 hY1; try simp only [hb])) )))
      | (((with_reducible refine cC_pure ?_ (hC) (fun _ => ?_)); (focus ((repeat' constructor) <;> (simp only [purAs, purA, Vf, Bool.and_self, Tb.v, Tb.c, rowR]; done)))))
      | ((simp only [thenP]; (try ((repeat (fail_if_success (with_reducible refine hK1 _ ?_)); clear hK1); (with_reducible refine hK1 _ ?_); clear hK1))))
      | (((first | (((with_reducible refine opsP_cons fun K3 hK3 => ?_); simp only [wantP, opP, valP, Ur, Us])) | ((with_reducible refine PW.condM fun X1 Y1 hX1 hY1 => ?_)) | (skip)); simp (disch := omega) only [St.eval, St.put, upd_app, iniT_app, avOf, avOf1, nom, cellsA, AV.okv, loadA, unP, U7, U8, Ua, Uf, Ug, Uk, Ul, Un, Up, Ut, Uu, Uv, V9, Ve, Vr, PmL, simprocAttr, PmT, Tb.v, Tb.c, rowR, retQ, resP, tupA, fg, fgs, condP, condB_t]; try (with_reducible (first | exact co_refl _ | exact co_own _ _ _ | exact co_nilsB | exact co_nilsL _ _)))))
    exact co_row0 _
  rw [ht] at hC
  have hu : takeRowS T K V = if (read1 T K).2.2 = true ∨ (read2 T K V).2.2 = true ∨ (rowKV T (read2 T K V).1) ≠ (K, V, 0) then ([], 200) else ((read2 T K V).1, 0) := by unfold takeRowS; rw [if_neg (by rw [ht]; simp)]
  have hin := (tabled_in ht).1
  have hB := pBegin [T.id, 1] (by simp)
  have hbl := begB_len [T.id, 1]
  obtain ⟨kb, hkb⟩ : ∃ b, begB [T.id, 1] = b := ⟨_, rfl⟩
  rw [hkb] at hB hbl
  have hbl' : (kb.length : Int) = 17 := by rw [hbl]; rfl
  have hrow := pRow T (read2 T K V).1 (by unfold read2 read1; rw [(restS_len _ _ _ _).1]; simp only; rw [keysS_len]; simp only [List.length_replicate]; exact hT.1) hT.2
  have hk1 := pKeys T T.key (List.replicate T.cols.length z4) (K.drop 17, false) hin (by simp) (by simp only [List.length_drop]; omega)
  have hr1l : (read1 T K).1.length = T.cols.length := by unfold read1; rw [keysS_len]; simp
  have hr2 : ∀ k : Nat, (restS T.key 0 (T.cols.take k) ((read1 T K).1, V, false)).1.length = T.cols.length ∧ (restS T.key 0 (T.cols.take k) ((read1 T K).1, V, false)).2.1.length ≤ V.length := fun k => by
    have := restS_len T.key (T.cols.take k) 0 ((read1 T K).1, V, false)
    exact ⟨this.1.trans hr1l, this.2⟩
  have hsn := fun (k : Nat) (c : Col) (_ : T.cols[k]? = some c) => restS_snoc T.key c (T.cols.take k) 0 ((read1 T K).1, V, false)
  have hr2e : read2 T K V = restS T.key 0 T.cols ((read1 T K).1, V, false) := rfl
  rw [show keysS T T.key (List.replicate T.cols.length z4, K.drop 17, false) = read1 T K from rfl] at hk1
  rw [List.length_replicate] at hk1
  obtain ⟨⟨R1, l1, bad1⟩, h1⟩ : ∃ r, read1 T K = r := ⟨_, rfl⟩
  rw [h1] at hu hk1 hr1l hr2 hsn hr2e
  simp only at hk1 hu hr1l hr2 hsn hr2e
  have hdrop : ∀ n : Nat, (K.length ≤ 17 ∧ n = K.length) ∨ (17 ≤ K.length ∧ n = 17) → K.drop n = K.drop 17 := fun n h => by
    rcases h with ⟨h, rfl⟩ | ⟨h, rfl⟩
    · rw [List.drop_length, List.drop_of_length_le h]
    · rfl
  have hctk := fun i : Int => pContains T.key i
  obtain ⟨tid, tnm, tcols, tkey, tix⟩ := T
  simp only at hk1 hr1l hr2 hsn hr2e hctk hin
  unfold Tb.v Tb.c at hC hrow
  unfold Tb.v Tb.c kM rdC at hk1
  simp only at hk1
  obtain ⟨N, hN⟩ : ∃ n, tcols.length = n := ⟨_, rfl⟩
  have hNs : N ≤ 1048576 := by have := hT.1; simp only at this; omega
  rw [hN] at hk1 hr1l hr2
  have hcN : ((N : Nat) : Int).toNat = N := by omega
  obtain ⟨D, hD⟩ : ∃ d, K.drop 17 = d := ⟨_, rfl⟩
  rw [hD] at hk1 hdrop
  have hrep : (List.replicate N [AV.d (.int .i64 0), .d (.bool false), .d (.int .i64 0), .d (.str [])]).flatten = cX (List.replicate N z4) := cX_rep N
  obtain ⟨mn, hmn, hmnl, hd⟩ : ∃ mn : Nat, (if (17 : Int) < (K.length : Int) then (17 : Int) else (K.length : Int)) = (mn : Int) ∧ mn ≤ K.length ∧ K.drop mn = D := by
    by_cases h17 : (17 : Int) < K.length
    · exact ⟨17, by rw [if_pos h17]; rfl, by omega, hdrop 17 (.inr ⟨by omega, rfl⟩)⟩
    · exact ⟨K.length, by rw [if_neg h17], Nat.le_refl _, hdrop _ (.inl ⟨by omega, rfl⟩)⟩
  clear hdrop hD
  repeat' (first
    | (((with_reducible refine callP_b2 (i := 3) (j := 2) (by decide) ?_ ?_ ?_ ?_ hk1 (fun _ => ?_)); (focus (exact rfl)); (focus (exact rfl)); (focus (exact rfl)); (focus (exact ⟨rfl, rfl, cX_pur _, cX_pur _, rfl⟩)); simp only [List.set_cons_succ, List.set_cons_zero]))
    | ((with_reducible (first
     | (refine PW.seq fun K1 hK1 => ?_) | (refine PW.region fun K2 hK2 => ?_) | ((refine hK3 _ ?_; clear hK3)) | ((refine opsP_nil ?_; refine hK2 _ ?_; clear hK2)) | (refine litX_old ?_) | (refine litC_data ?_) | ((refine Exists.intro _ (Exists.intro _ (And.intro rfl (And.intro rfl (And.intro ?_ ?_)))); focus omega)) 
     | (refine PW.block ?_) | (refine PW.skip ?_) | ((refine hY1 ?_; clear hX1 hY1; try simp only [hb])) )))
    | (((with_reducible refine cC_pure ?_ (hC) (fun _ => ?_)); (focus ((repeat' constructor) <;> (simp only [purAs, purA, Vf, Bool.and_self, Tb.v, Tb.c, eI, hbl', hmn, hN, hcN, hrep, hd]; done)))))
    | (((with_reducible refine cC_pure ?_ (hB) (fun _ => ?_)); (focus ((repeat' constructor) <;> (simp only [purAs, purA, Vf, Bool.and_self, Tb.v, Tb.c, eI, hbl', hmn, hN, hcN, hrep, hd]; done)))))
    | (((with_reducible refine And.intro ?_ ?_); (focus (first | omega | (simp; done) | assumption))))
    | ((simp only [thenP]; (try ((repeat (fail_if_success (with_reducible refine hK1 _ ?_)); clear hK1); (with_reducible refine hK1 _ ?_); clear hK1))))
    | (((first | (((with_reducible refine opsP_consD (d := 22) fun K3 hK3 => ?_); simp only [wantP, opP]; (with_reducible refine litX_box ?_))) | (((with_reducible refine opsP_cons fun K3 hK3 => ?_); simp only [wantP, opP, valP, Ur, Us, List.mapM_cons, List.mapM_nil, Uw, Ux])) | ((with_reducible refine PW.condM fun X1 Y1 hX1 hY1 => ?_)) | (skip)); simp (disch := omega) only [St.eval, St.put, upd_app, iniT_app, avOf, avOf1, nom, cellsA, AV.okv, loadA, lenP, sliceP, boundLo, boundHi, unP, builtinP, isMapA, U3, U4, U5, min2, putCells, fillA, buildA, elA, dv1, U7, U8, Ua, Ub, Uc, Uf, Ug, Uk, Ul, Un, Up, Uq, Ut, Uu, Uv, List.mapM_cons, List.mapM_nil, Uw, Ux, V0, V1, V2, V3, V4, Option.bind_eq_bind, Option.pure_def, V7, V9, Va, Ve, Vt, Int.cast_ofNat_Int, UU2, UU3, UU4, UU9, Vr, Vs, PmL, simprocAttr, PmT, Tb.v, Tb.c, hbl', hmn, hN, hcN, hrep, hd, condP, condB_f]; try (with_reducible (first | exact co_refl _ | exact co_own _ _ _ | exact co_nilsB | exact co_nilsL _ _)))))
  (with_reducible refine PW.loop (fun n s => ∃ (k : Nat), s.t 2 = .ptr 0 0 ∧ s.t 3 = .ptr 1 0 ∧ s.t 6 = .bsl 2 0 N N 4 ∧ s.t 8 = .ptr 3 0 ∧ s.t 9 = .ptr 4 0 ∧ s.t 49 = .d (.sl 7 (encL Col.c tcols)) ∧ s.t 50 = .d (.int .i64 N) ∧ s.t 51 = .d (.int .i64 k) ∧ s.n = 106 ∧ s.m = ⟨[some (26, Tb.c ⟨tid, tnm, tcols, tkey, tix⟩), some (31, [bs K, bs V]), some (47, cX (restS tkey 0 (tcols.take k) (R1, V, false)).1), some (79, rdC (l1, bad1)), some (79, rdC (restS tkey 0 (tcols.take k) (R1, V, false)).2)], []⟩ ∧ k ≤ tcols.length ∧ n = tcols.length - k) tcols.length ?_ ?_)
  · exact ⟨0, rfl, rfl, rfl, rfl, rfl, rfl, rfl, rfl, rfl, rfl, Nat.zero_le _, rfl⟩
  rintro n ⟨t, nn, m⟩ ⟨k, q2, q3, q6, q8, q9, q49, q50, q51, hn, hm, hk, hnk⟩ - -
  simp only at q2 q3 q6 q8 q9 q49 q50 q51 hn hm
  subst hn hm hnk
  by_cases hlt : (k : Int) < N
  · have hlt' := eq_true hlt
    obtain ⟨c, hc⟩ : ∃ x, tcols[k]? = some x := ⟨_, List.getElem?_eq_getElem (by omega)⟩
    have hw : IntKind.i64.wrap ((k : Int) + 1) = k + 1 := IntWalk.i64_in ((k : Int) + 1) (by omega)
    have hct := hctk (k : Int)
    have hs := hsn k c hc
    have hkl := hr2 k
    rw [List.length_take, hN, Nat.min_eq_left (by omega), Nat.zero_add] at hs
    have ht : tcols.take (k + 1) = tcols.take k ++ [c] := by rw [List.take_add_one, hc, Option.toList_some]
    rw [← ht] at hs
    obtain ⟨⟨R2, l2, bad2⟩, h2⟩ : ∃ r, restS tkey 0 (tcols.take k) (R1, V, false) = r := ⟨_, rfl⟩
    rw [h2] at hs hkl ⊢
    simp only at hs hkl
    cases hcv : tkey.contains (k : Int)
    · rw [hcv] at hct hs
      rw [if_neg (by simp)] at hs
      have hV := pValue textsT 0 c.ty (l2, bad2) (by simp only; omega)
      obtain ⟨⟨⟨xa, xb, xc, xd⟩, l3, bad3⟩, hv⟩ : ∃ r, valS Codec.takeTextF 0 c.ty (l2, bad2) = r := ⟨_, rfl⟩
      rw [hv] at hV hs
      unfold rdM rdC at hV
      unfold XV.v XV.c at hV
      simp only at hV hs
      have hset := cX_set R2 k xa xb xc xd (by omega)
      have hcl := cX_len R2
      simp only [rdC]
      repeat' (first
        | ((with_reducible (first
         | (refine PW.seq fun K1 hK1 => ?_) | (refine PW.region fun K2 hK2 => ?_) | ((refine hK3 _ ?_; clear hK3)) | ((refine opsP_nil ?_; refine hK2 _ ?_; clear hK2)) 
         | (refine PW.block ?_) | (refine PW.skip ?_) | ((refine hX1 ?_; clear hX1 hY1; try simp only [hb])) )))
        | (((with_reducible refine cC_recv (cs := ?_) ?_ ?_ ?_ ?_ (hV) (fun _ => ?_)); rotate_left 1; (focus (first | exact rfl | (simp only [Ua, Ub]; rfl))); (focus ((repeat' constructor) <;> (simp only [purAs, purA, Vf, Bool.and_self, Tb.c, q2, q3, q6, q8, q9, q49, q50, q51, hlt', hc, hw, eI, Col.c, hset, hcl]; done))); (focus ((repeat' constructor) <;> (simp only [purAs, purA, Vf, Bool.and_self, Tb.c, q2, q3, q6, q8, q9, q49, q50, q51, hlt', hc, hw, eI, Col.c, hset, hcl]; done))); (focus (simp only [purAs, purA, Bool.and_self]; done))))
        | (((with_reducible refine cC_pure ?_ (hct) (fun _ => ?_)); (focus ((repeat' constructor) <;> (simp only [purAs, purA, Vf, Bool.and_self, Tb.c, q2, q3, q6, q8, q9, q49, q50, q51, hlt', hc, hw, eI, Col.c, hset, hcl]; done)))))
        | (((with_reducible refine And.intro ?_ ?_); (focus (first | omega | (simp; done) | assumption))))
        | ((simp only [thenP, blockP]; (try ((repeat (fail_if_success (with_reducible refine hK1 _ ?_)); clear hK1); (with_reducible refine hK1 _ ?_); clear hK1))))
        | (((first | (((with_reducible refine opsP_cons fun K3 hK3 => ?_); simp only [wantP, opP, valP, Ur, Us])) | ((with_reducible refine PW.condM fun X1 Y1 hX1 hY1 => ?_)) | (skip)); simp (disch := omega) only [St.eval, St.put, upd_app, avOf, avOf1, cellsA, AV.okv, loadA, binP, intsP, intP, nilP, unP, slA, putCells, Ua, Ub, Uc, Ud, Uf, Ug, Uk, Ul, Un, Up, Ur, Us, Ut, Uu, Uv, V2, V7, V9, Ve, Vr, Vs, PmL, simprocAttr, PmT, Tb.c, q2, q6, q9, q49, q50, q51, hlt', hc, hw, Col.c, hset, hcl, condP, condB_t]; try (with_reducible (first | exact co_refl _ | exact co_own _ _ _ | exact co_nilsB | exact co_nilsL _ _)))))
      refine ⟨tcols.length - (k + 1), by omega, k + 1, ?_, ?_, ?_, ?_, ?_, ?_, ?_, ?_, ?_, ?_, by omega, rfl⟩
      all_goals (simp only [St.cut, Mem.cut, fg, fgs, upd_app, Nat.reduceEqDiff, ↓reduceIte, List.take_nil, List.map_nil, List.take_succ_cons, List.take_zero, List.map_cons, Option.map_some, Nat.reduceLT, Int.natCast_add, Int.cast_ofNat_Int, q2, q3, q6, q8, q9, q49, q50, hs, cX_fgs]; try rfl)
    · rw [hcv] at hct hs
      rw [if_pos rfl] at hs
      simp only [rdC]
      repeat' (first
        | ((with_reducible (first
         | (refine PW.seq fun K1 hK1 => ?_) | (refine PW.region fun K2 hK2 => ?_) | ((refine hK3 _ ?_; clear hK3)) | ((refine opsP_nil ?_; refine hK2 _ ?_; clear hK2)) 
         | (refine PW.block ?_) | (refine PW.skip ?_) | ((refine hX1 ?_; clear hX1 hY1; try simp only [hb])) | ((refine hY1 ?_; clear hX1 hY1; try simp only [hb])) )))
        | (((with_reducible refine cC_pure ?_ (hct) (fun _ => ?_)); (focus ((repeat' constructor) <;> (simp only [purAs, purA, Vf, Bool.and_self, Tb.c, q2, q3, q6, q8, q9, q49, q50, q51, hlt', hc, hw, eI, Col.c]; done)))))
        | (((with_reducible refine And.intro ?_ ?_); (focus (first | omega | (simp; done) | assumption))))
        | ((simp only [thenP, blockP]; (try ((repeat (fail_if_success (with_reducible refine hK1 _ ?_)); clear hK1); (with_reducible refine hK1 _ ?_); clear hK1))))
        | (((first | (((with_reducible refine opsP_cons fun K3 hK3 => ?_); simp only [wantP, opP, valP, Ur, Us])) | ((with_reducible refine PW.condM fun X1 Y1 hX1 hY1 => ?_)) | (skip)); simp (disch := omega) only [St.eval, St.put, upd_app, avOf, avOf1, cellsA, AV.okv, loadA, binP, intsP, intP, nilP, unP, slA, putCells, Ua, Ub, Uc, Ud, Uf, Ug, Uk, Ul, Un, Up, Ur, Us, Ut, Uu, Uv, V2, V7, V9, Ve, Vr, PmL, simprocAttr, PmT, Tb.c, q2, q49, q50, q51, hlt', hc, hw, Col.c, condP, condB_t, condB_f]; try (with_reducible (first | exact co_refl _ | exact co_own _ _ _ | exact co_nilsB | exact co_nilsL _ _)))))
      refine ⟨tcols.length - (k + 1), by omega, k + 1, ?_, ?_, ?_, ?_, ?_, ?_, ?_, ?_, ?_, ?_, by omega, rfl⟩
      all_goals (simp only [St.cut, Mem.cut, fg, fgs, upd_app, Nat.reduceEqDiff, ↓reduceIte, List.take_nil, List.map_nil, List.take_succ_cons, List.take_zero, List.map_cons, Option.map_some, Nat.reduceLT, Int.natCast_add, Int.cast_ofNat_Int, q2, q3, q6, q8, q9, q49, q50, hs, cX_fgs]; try rfl)
  have hkl : k = tcols.length := by omega
  subst hkl
  have hlt' := eq_false hlt
  have hf := hr2 tcols.length
  rw [List.take_length] at hf ⊢
  rw [← hr2e] at hf ⊢
  obtain ⟨⟨R2, l2, bad2⟩, h2⟩ : ∃ r, read2 ⟨tid, tnm, tcols, tkey, tix⟩ K V = r := ⟨_, rfl⟩
  rw [h2] at hf hu hrow ⊢
  simp only at hf hu hrow
  obtain ⟨⟨kk, vv, ee⟩, hkv⟩ : ∃ r, rowKV ⟨tid, tnm, tcols, tkey, tix⟩ R2 = r := ⟨_, rfl⟩
  rw [hkv] at hu hrow
  unfold kvR at hrow
  simp only [rdC]
  simp only at hrow
  repeat' (first
    | (((with_reducible refine PW.freezeR (id := 14) 6 2 0 N N 4 (xs := encL XV.cd R2) (b := (47, cX R2)) ?_ ?_ ?_ ?_); (focus (simp only [upd_app, simprocAttr, q6])); (focus (exact rfl)); (focus (exact view_cX (by decide) rfl hf.1))))
    | ((with_reducible (first
     | (refine PW.seq fun K1 hK1 => ?_) | (refine PW.region fun K2 hK2 => ?_) | ((refine hK3 _ ?_; clear hK3)) | ((refine opsP_nil ?_; refine hK2 _ ?_; clear hK2)) 
     | (refine PW.skip ?_) | (refine PW.exit ?_) | (refine PW.ret ?_) | ((refine hX1 ?_; clear hX1 hY1; try simp only [hb])) | ((refine hY1 ?_; clear hX1 hY1; try simp only [hb])) )))
    | (((first | (with_reducible refine wantB_intro (fun hb => ?_) (fun hb => ?_)) | (with_reducible refine condB_intro (fun hb => ?_) (fun hb => ?_))) <;> ((try (have hp := hb; simp only [PmH] at hp)); try simp only [hb, Bool.not_false])))
    | (((with_reducible refine cC_pure ?_ (hrow) (fun _ => ?_)); (focus ((repeat' constructor) <;> (simp only [purAs, purA, Vf, Bool.and_self, Tb.c, q2, q3, q6, q8, q9, q49, q50, q51, hlt']; done)))))
    | (((with_reducible refine cC_pure ?_ (pEqual ?_ ?_) (fun _ => ?_)); (focus ((repeat' (first | (refine .cons ?_ ?_) | (exact .nil) | (exact .d _) )) <;> (simp only [purAs, purA, Vf, Bool.and_self, Tb.c, q2, q3, q6, q8, q9, q49, q50, q51, hlt']; done)))))
    | ((simp only [thenP, blockP, ↓reduceIte]; (try ((repeat (fail_if_success (with_reducible refine hK1 _ ?_)); clear hK1); (with_reducible refine hK1 _ ?_); clear hK1))))
    | (((first | (((with_reducible refine opsP_cons fun K3 hK3 => ?_); simp only [wantP, opP, valP, Ur, Us])) | ((with_reducible refine PW.condM fun X1 Y1 hX1 hY1 => ?_)) | (skip)); simp (disch := omega) only [wantB_ff, wantB_tf, St.eval, St.put, upd_app, avOf, avOf1, cellsA, AV.okv, loadA, binP, intsP, intP, eqP, nilP, unP, slA, putCells, Ua, Ub, Uc, Ud, Uf, Ug, Uk, Ul, Un, Up, Ut, Uu, Uv, Uz, V4, V9, Va, Ve, Vr, PmL, simprocAttr, PmT, Tb.c, q2, q3, q8, q9, q50, q51, hlt', retQ, resP, tupA, fg, fgs, condP, condB_t, condB_f]; try (with_reducible (first | exact co_refl _ | exact co_own _ _ _ | exact co_nilsB | exact co_nilsL _ _)))))
  all_goals first
    | (rw [hu, if_pos (by simp_all)]; exact co_row0 _)
    | (rw [hu, if_neg (by simp_all)]; exact co_refl _)
end PM
end Go.Proofs.YtfkemeamimcnjaaDoor
