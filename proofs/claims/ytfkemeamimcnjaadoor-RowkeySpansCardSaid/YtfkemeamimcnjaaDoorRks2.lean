/- rowkey in the abstract: the spans as rows of the call's own. -/
import Derived.Test.YtfkemeamimcnjaaDoorRks1
set_option linter.unusedVariables false
set_option linter.unusedSimpArgs false
namespace Go.Proofs.YtfkemeamimcnjaaDoor
open Go.RowKit
set_option maxRecDepth 100000
namespace PM
section
variable {P : Program} {m : Mem}
/-- a call that hands back a row as another one -/
theorem callP_clip {f i : Nat} {k n n' : Nat} {e : TypeId} {xs ys : List (List DV)} {K : AV → Mem → Prop} (hr : m.row[i]? = some (some ⟨e, k, n⟩))
    (hp : PFun P f [.own 0 k xs] ⟨[], [some ⟨e, k, n⟩]⟩ (.own 1 k ys) ⟨[], [none, some ⟨e, k, n'⟩]⟩) (hk : K (.own m.row.length k ys) ⟨m.box, m.row.set i none ++ [some ⟨e, k, n'⟩]⟩) : callP P m f [.own i k xs] K := by
  have hok : EmbOk m [] [i] ⟨[], [some ⟨e, k, n⟩]⟩ := by
    refine ⟨by simp, by simp, rfl, rfl, fun k j hj => by simp at hj, fun a j hj => ?_⟩
    cases a with
    | zero => simp at hj; subst hj; exact ⟨_, rfl, hr⟩
    | succ a => simp at hj
  refine callP_emb [] [i] hok (args' := [.own i k xs]) (cos_refl _) ?_ hp fun _ => ?_
  · simp [rens, ren, num]
  · have e1 : ren (num [] m.box.length) (num [i] m.row.length) (.own 1 k ys) = .own m.row.length k ys := by unfold ren num; simp
    have e2 : embM m [] [i] ⟨[], [none, some ⟨e, k, n'⟩]⟩ = ⟨m.box, m.row.set i none ++ [some ⟨e, k, n'⟩]⟩ := by unfold embM; simp [setAll]
    rw [e1, e2]
    exact hk
/-- a call that hands back two new rows in a struct -/
theorem callP_new2 {f : Nat} {k1 k2 n1 n2 : Nat} {e1 e2 : TypeId} {xs ys : List (List DV)} {args : List AV} {K : AV → Mem → Prop} (p1 : purAs args = true)
    (hp : PFun P f args nom (.agg [.own 0 k1 xs, .own 1 k2 ys]) ⟨[], [some ⟨e1, k1, n1⟩, some ⟨e2, k2, n2⟩]⟩) (hk : K (.agg [.own m.row.length k1 xs, .own (m.row.length + 1) k2 ys]) ⟨m.box, m.row ++ [some ⟨e1, k1, n1⟩, some ⟨e2, k2, n2⟩]⟩) : callP P m f args K := by
  have hok : EmbOk m [] [] nom := ⟨by simp, by simp, rfl, rfl, fun k j hj => by simp at hj, fun a j hj => by simp at hj⟩
  refine callP_emb [] [] hok (args' := args) (cos_refl _) ?_ hp fun _ => ?_
  · rw [rens_pur args p1]
  · have q1 : ren (num [] m.box.length) (num [] m.row.length) (.agg [.own 0 k1 xs, .own 1 k2 ys]) = .agg [.own m.row.length k1 xs, .own (m.row.length + 1) k2 ys] := by simp [ren, rens, num]
    have q2 : embM m [] [] ⟨[], [some ⟨e1, k1, n1⟩, some ⟨e2, k2, n2⟩]⟩ = ⟨m.box, m.row ++ [some ⟨e1, k1, n1⟩, some ⟨e2, k2, n2⟩]⟩ := by unfold embM; simp [setAll]
    rw [q1, q2]
    exact hk
end
theorem pClipO (l : List Int) : PFun Tryd.prog 45 [.own 0 1 (encB l)] ⟨[], [some ⟨5, 1, l.length⟩]⟩ (.own 1 1 (encB l)) ⟨[], [none, some ⟨5, 1, l.length⟩]⟩ := fun G w vs hm ha => by
  unfold RelAs at ha
  obtain ⟨v, vs', rfl, h1, ha⟩ := ha
  unfold RelAs at ha
  subst ha
  unfold RelA at h1
  obtain ⟨-, r1, r2⟩ := h1
  obtain ⟨-, q1, q2⟩ := hm.row 0 ⟨5, 1, l.length⟩ rfl
  have hv := (r2 _ rfl).2 (by rw [encB_len])
  rw [encB_len] at hv
  have hle : l.length ≤ G.rc 0 ∧ G.rc 0 ≤ maxLen := by
    cases hg : G.ri 0 with
    | none => have := q1 hg; simp only at this; omega
    | some g => exact ⟨(q2 g hg).2.1, (q2 g hg).2.2.1⟩
  subst hv
  unfold Runs
  have hcall : (callFunc 45 #[.slice ((G.ri 0).map fun g => ⟨g, 0, none⟩) l.length (G.rc 0)]).run Tryd.prog w = .ok (.enter 45 #[.slice ((G.ri 0).map fun g => ⟨g, 0, none⟩) l.length (G.rc 0)]) w := by
    simp [callFunc, Tryd.func45]
    rfl
  rw [hcall]
  refine (clip_any ((G.ri 0).map fun g => ⟨g, 0, none⟩) l.length (G.rc 0) w hle.1 hle.2).mono ?_
  rintro e w' ⟨rfl, rfl⟩
  have hmut : ∀ b o, Mut { G with ri := fun _ => G.ri 0, rc := fun _ => l.length } ⟨[], [none, some ⟨5, 1, l.length⟩]⟩ b o → Mut G ⟨[], [some ⟨5, 1, l.length⟩]⟩ b o := by
    rintro b o (⟨id, e', cs, hb, -⟩ | ⟨r, i, hr, hg, hn⟩)
    · simp at hb
    · match r with
      | 0 => simp at hr
      | 1 => exact .inr ⟨0, i, by simpa using hr, hg, hn⟩
      | r + 2 => simp at hr
  refine ⟨_, rfl, { G with ri := fun _ => G.ri 0, rc := fun _ => l.length }, ⟨hm.avlt, fun id e' cs hb => by simp at hb, fun r i hr => ?_, fun i j x y hi => by simp at hi, fun i j x y g hi hj _ _ => ?_, fun i j x y hi => by simp at hi⟩,
    ⟨rfl, .refl _ _, fun b o hk => .inl (hmut b o hk), fun id hid => by simp at hid, Nat.zero_le _, by simp, fun r i' hr hi => ?_⟩, ?_⟩
  · match r with
    | 0 => simp at hr
    | 1 =>
      simp at hr
      subst hr
      refine ⟨Nat.one_pos, fun hg => ⟨(q1 hg).1, (q1 hg).1⟩, fun g hg => ?_⟩
      obtain ⟨⟨cur, c1, c2⟩, c3, c4, c5⟩ := q2 g hg
      refine ⟨⟨cur, c1, ?_⟩, Nat.le_refl _, Nat.le_trans c3 c4, c5⟩
      simp only at c2 c3 ⊢
      omega
    | r + 2 => simp at hr
  · match i, j with
    | 0, _ => simp at hi
    | _, 0 => simp at hj
    | 1, 1 => rfl
    | i + 2, _ => simp at hi
    | _, j + 2 => simp at hj
  · have : r = 0 := by simp at hr; omega
    subst this
    simp at hi
  · unfold RelA
    refine ⟨by simp, ?_, fun i hi => ?_⟩
    · unfold RelD at r1 ⊢
      obtain ⟨ao, cap, d1, d2, d3, d4, d5⟩ := r1
      rw [encB_len] at d1 d2 d4 d5 ⊢
      injection d1 with d1 _ _
      subst d1
      refine ⟨_, _, rfl, Nat.le_refl _, Nat.le_trans d2 d3, fun hn => ⟨(d4 hn).1, (d4 hn).1⟩, fun a ha' hp => ?_⟩
      obtain ⟨f1, f2⟩ := d5 a ha' hp
      refine ⟨f1, RelR.mono (Pre.same fun b o hk => ?_) _ _ _ _ f2⟩
      rcases hk with hk | hk
      · exact .inl hk
      · exact .inr (hmut b o hk)
    · simp at hi
      subst hi
      rw [encB_len]
      exact ⟨Nat.le_refl _, fun _ => rfl⟩
set_option maxHeartbeats 2000000 in
theorem pBegin1 (l : List Int) (hll : l.length ≤ 10000) : PFun Tryd.prog 41 [il l] nom (.own 1 1 (encB (begB l))) ⟨[], [none, some ⟨5, 1, (begB l).length⟩]⟩ := by
  refine fun_intro Tryd.func41 rfl rfl rfl 20 rfl ⟨Nat.le_refl _, Nat.zero_le _⟩ (fun hh => ?_)
  have hml : maxLen = 9223372036854775807 := rfl
  have hcl := pClipO (begB l)
  repeat' (first
    | (with_reducible (first
     | refine PW.seq fun K1 hK1 => ?_ | refine PW.region fun K2 hK2 => ?_ | (refine hK3 _ ?_; clear hK3) | (refine opsP_nil ?_; refine hK2 _ ?_; clear hK2) | refine litX_old ?_ | refine litC_data ?_ | (refine Exists.intro _ (Exists.intro _ (And.intro rfl (And.intro rfl (And.intro ?_ ?_)))); focus omega) | (refine hK1 _ ?_; clear hK1) | refine nilC_intro (fun hz => ?_) ?_
     | refine PW.block ?_ | refine PW.skip ?_ | refine PW.exit ?_ | refine PW.ret ?_ | (refine hX1 ?_; clear hX1 hY1; try simp only [hb]) | (refine hY1 ?_; clear hX1 hY1; try simp only [hb]) | exact co_refl _ | exact co_own _ _ _ | exact co_nilsB | exact co_nilsL _ _))
    | ((first | (with_reducible refine wantB_intro (fun hb => ?_) (fun hb => ?_)) | (with_reducible refine condB_intro (fun hb => ?_) (fun hb => ?_))) <;> ((try (have hp := hb; simp only [PmH, beq_iff_eq, beq_eq_false_iff_ne, ne_eq] at hp)); try simp only [hb, Bool.not_true, Bool.not_false]))
    | ((with_reducible refine And.intro ?_ ?_); (focus (first | omega | (simp; done) | assumption)))
    | (simp only [thenP, blockP, Nat.reduceEqDiff, ↓reduceIte]; (try ((repeat (fail_if_success (with_reducible refine hK1 _ ?_)); clear hK1); (with_reducible refine hK1 _ ?_); clear hK1)))
    | (with_reducible omega)
    | (assumption)
    | ((with_reducible refine opsP_consD (d := 6) fun K3 hK3 => ?_); simp only [wantP, opP, valP, Uy, U0, Ur, Us, List.mapM_cons, List.mapM_nil, Uw, Ux]; simp (disch := omega) only [wantP, wantB_tt, wantB_ff, wantB_tf, wantB_ft, opP, valP, St.eval, St.put, upd_app, iniT_app, avOf, avOf1, nom, cellsA, AV.okv, loadA, lenP, binP, intsP, intP, strP, eqP, nilP, convP, unP, builtinP, appP, srcA, srcTy, bsz, U0, U1, dvEqC, eqAll, srcAll, srcOk, appB, cellsV, maplenP, isMapA, isBsl, viewA, U2, U3, U4, U5, U6, slA, putCells, fillA, buildA, elA, dv1, U7, U8, U9, Ua, Ub, List.getElem?_nil, Uc, Ud, Ue, Uf, Ug, Uh, Ui, Uj, Uk, Ul, Um, Un, Uo, Up, Uq, Ur, Us, Ut, Uu, Uv, List.mapM_cons, List.mapM_nil, Uw, Ux, Uy, Uz, V0, V1, V2, V3, V4, V5, Option.bind_eq_bind, Option.pure_def, V6, V7, V8, V9, Va, Vb, Vc, Vd, Ve, Vt, Int.cast_ofNat_Int, ite_same, UU2, UU3, UU4, UU7, UU8, Vq, UU9, UUa, Vr, Vs, PmL, simprocAttr, PmT]; (with_reducible refine litX_old ?_); (with_reducible refine litC_own ?_))
    | ((first | ((with_reducible refine opsP_cons fun K3 hK3 => ?_); simp only [wantP, opP, valP, Uy, U0, Ur, Us, List.mapM_cons, List.mapM_nil, Uw, Ux]) | (with_reducible refine PW.condM fun X1 Y1 hX1 hY1 => ?_) | skip); simp (disch := omega) only [wantP, wantB_tt, wantB_ff, wantB_tf, wantB_ft, opP, valP, St.eval, St.put, upd_app, iniT_app, avOf, avOf1, nom, cellsA, AV.okv, loadA, lenP, binP, intsP, intP, strP, eqP, nilP, convP, unP, builtinP, appP, srcA, srcTy, bsz, U0, U1, dvEqC, eqAll, srcAll, srcOk, appB, cellsV, maplenP, isMapA, isBsl, viewA, U2, U3, U4, U5, U6, slA, putCells, fillA, buildA, elA, dv1, U7, U8, U9, Ua, Ub, List.getElem?_nil, Uc, Ud, Ue, Uf, Ug, Uh, Ui, Uj, Uk, Ul, Um, Un, Uo, Up, Uq, Ur, Us, Ut, Uu, Uv, List.mapM_cons, List.mapM_nil, Uw, Ux, Uy, Uz, V0, V1, V2, V3, V4, V5, Option.bind_eq_bind, Option.pure_def, V6, V7, V8, V9, Va, Vb, Vc, Vd, Ve, Vt, Int.cast_ofNat_Int, ite_same, UU2, UU3, UU4, UU7, UU8, Vq, UU9, UUa, Vr, Vs, PmL, simprocAttr, PmT, retQ, resP, tupA, fg, fgs, condP, condB_t, condB_f]; try (with_reducible (first | exact co_refl _ | exact co_own _ _ _ | exact co_nilsB | exact co_nilsL _ _))))
  (with_reducible refine PW.loop (fun n s => ∃ (k : Nat), s.t 3 = .own 0 1 (encB (begB (l.take k))) ∧ s.t 7 = il l ∧ s.t 8 = .d (.int .i64 l.length) ∧ s.t 9 = .d (.int .i64 k) ∧ s.n = 20 ∧ s.m = ⟨[], [some ⟨5, 1, (begB (l.take k)).length⟩]⟩ ∧ k ≤ l.length ∧ n = l.length - k) l.length ?_ ?_)
  · exact ⟨0, rfl, rfl, rfl, rfl, rfl, rfl, Nat.zero_le _, rfl⟩
  rintro n ⟨t, nn, m⟩ ⟨k, h3, h7, h8, h9, hn, hm, hk, hnk⟩ - -
  simp only at h3 h7 h8 h9 hn hm
  subst hn hm hnk
  by_cases hlt : (k : Int) < l.length
  · have hlt' := eq_true hlt
    obtain ⟨x, hx⟩ : ∃ x, l[k]? = some x := ⟨_, List.getElem?_eq_getElem (by omega)⟩
    have hw : IntKind.i64.wrap ((k : Int) + 1) = k + 1 := IntWalk.i64_in ((k : Int) + 1) (by omega)
    have hkl : (Codec.keyL x).length = 8 := rfl
    have hb1 : (begB (l.take k)).length ≤ 80001 := by
      rw [begB_len, List.length_take]
      omega
    have ht : begB (l.take (k + 1)) = begB (l.take k) ++ Codec.keyL x := by
      rw [List.take_add_one, hx, Option.toList_some]
      unfold begB
      simp
    have hI := pKeyInt x
    repeat' (first
      | (with_reducible (first
       | refine PW.seq fun K1 hK1 => ?_ | refine PW.region fun K2 hK2 => ?_ | (refine hK3 _ ?_; clear hK3) | (refine opsP_nil ?_; refine hK2 _ ?_; clear hK2) | refine litX_old ?_ | refine litC_data ?_ | (refine Exists.intro _ (Exists.intro _ (And.intro rfl (And.intro rfl (And.intro ?_ ?_)))); focus omega) | (refine hK1 _ ?_; clear hK1) | refine nilC_intro (fun hz => ?_) ?_
       | refine PW.block ?_ | refine PW.skip ?_ | refine PW.exit ?_ | refine PW.ret ?_ | (refine hX1 ?_; clear hX1 hY1; try simp only [hb]) | (refine hY1 ?_; clear hX1 hY1; try simp only [hb]) | exact co_refl _ | exact co_own _ _ _ | exact co_nilsB | exact co_nilsL _ _))
      | ((first | (with_reducible refine wantB_intro (fun hb => ?_) (fun hb => ?_)) | (with_reducible refine condB_intro (fun hb => ?_) (fun hb => ?_))) <;> ((try (have hp := hb; simp only [PmH, beq_iff_eq, beq_eq_false_iff_ne, ne_eq] at hp)); try simp only [hb, Bool.not_true, Bool.not_false]))
      | ((with_reducible refine cC_new ?_ (hI) ?_); (focus ((repeat' constructor) <;> (simp only [purAs, purA, Vf, Bool.and_self, h3, h7, h8, h9, hlt', hx, hw, eI]; done))))
      | ((with_reducible refine And.intro ?_ ?_); (focus (first | omega | (simp; done) | assumption)))
      | (simp only [thenP, blockP, Nat.reduceEqDiff, ↓reduceIte]; (try ((repeat (fail_if_success (with_reducible refine hK1 _ ?_)); clear hK1); (with_reducible refine hK1 _ ?_); clear hK1)))
      | (with_reducible omega)
      | (assumption)
      | ((with_reducible refine opsP_consD (d := 6) fun K3 hK3 => ?_); simp only [wantP, opP, valP, Uy, U0, Ur, Us, List.mapM_cons, List.mapM_nil, Uw, Ux]; simp (disch := omega) only [wantP, wantB_tt, wantB_ff, wantB_tf, wantB_ft, opP, valP, St.eval, St.put, upd_app, iniT_app, avOf, avOf1, nom, cellsA, AV.okv, loadA, lenP, binP, intsP, intP, strP, eqP, nilP, convP, unP, builtinP, appP, srcA, srcTy, bsz, U0, U1, dvEqC, eqAll, srcAll, srcOk, appB, cellsV, maplenP, isMapA, isBsl, viewA, U2, U3, U4, U5, U6, slA, putCells, fillA, buildA, elA, dv1, U7, U8, U9, Ua, Ub, List.getElem?_nil, Uc, Ud, Ue, Uf, Ug, Uh, Ui, Uj, Uk, Ul, Um, Un, Uo, Up, Uq, Ur, Us, Ut, Uu, Uv, List.mapM_cons, List.mapM_nil, Uw, Ux, Uy, Uz, V0, V1, V2, V3, V4, V5, Option.bind_eq_bind, Option.pure_def, V6, V7, V8, V9, Va, Vb, Vc, Vd, Ve, Vt, Int.cast_ofNat_Int, ite_same, UU2, UU3, UU4, UU7, UU8, Vq, UU9, UUa, Vr, Vs, PmL, simprocAttr, PmT, h3, h7, h8, h9, hlt', hx, hw, eI]; (with_reducible refine litX_old ?_); (with_reducible refine litC_own ?_))
      | ((first | ((with_reducible refine opsP_cons fun K3 hK3 => ?_); simp only [wantP, opP, valP, Uy, U0, Ur, Us, List.mapM_cons, List.mapM_nil, Uw, Ux]) | (with_reducible refine PW.condM fun X1 Y1 hX1 hY1 => ?_) | skip); simp (disch := omega) only [wantP, wantB_tt, wantB_ff, wantB_tf, wantB_ft, opP, valP, St.eval, St.put, upd_app, iniT_app, avOf, avOf1, nom, cellsA, AV.okv, loadA, lenP, binP, intsP, intP, strP, eqP, nilP, convP, unP, builtinP, appP, srcA, srcTy, bsz, U0, U1, dvEqC, eqAll, srcAll, srcOk, appB, cellsV, maplenP, isMapA, isBsl, viewA, U2, U3, U4, U5, U6, slA, putCells, fillA, buildA, elA, dv1, U7, U8, U9, Ua, Ub, List.getElem?_nil, Uc, Ud, Ue, Uf, Ug, Uh, Ui, Uj, Uk, Ul, Um, Un, Uo, Up, Uq, Ur, Us, Ut, Uu, Uv, List.mapM_cons, List.mapM_nil, Uw, Ux, Uy, Uz, V0, V1, V2, V3, V4, V5, Option.bind_eq_bind, Option.pure_def, V6, V7, V8, V9, Va, Vb, Vc, Vd, Ve, Vt, Int.cast_ofNat_Int, ite_same, UU2, UU3, UU4, UU7, UU8, Vq, UU9, UUa, Vr, Vs, PmL, simprocAttr, PmT, h3, h7, h8, h9, hlt', hx, hw, eI, retQ, resP, tupA, fg, fgs, condP, condB_t, condB_f]; try (with_reducible (first | exact co_refl _ | exact co_own _ _ _ | exact co_nilsB | exact co_nilsL _ _))))
    refine ⟨l.length - (k + 1), by omega, k + 1, ?_, ?_, ?_, ?_, ?_, ?_, by omega, rfl⟩
    all_goals (simp only [St.cut, Mem.cut, fg, fgs, upd_app, Nat.reduceEqDiff, ↓reduceIte, List.take_nil, List.map_nil, List.take_succ_cons, List.take_zero, List.map_cons, Option.map_some, Option.map_none, Nat.reduceLT, Nat.zero_lt_one, Nat.reduceAdd, List.length_append, List.length_cons, List.length_nil, List.append_assoc, Nat.add_assoc, Int.natCast_add, Int.cast_ofNat_Int, nom, h3, h7, h8, h9, hw, ht, encB_append]; try rfl)
  have hkl : k = l.length := by omega
  subst hkl
  rw [List.take_length] at h3 ⊢
  have hlt' := eq_false hlt
  obtain ⟨b, hb⟩ : ∃ b, begB l = b := ⟨_, rfl⟩
  rw [hb] at h3 hcl ⊢
  repeat' (first
    | ((with_reducible refine callP_clip ?_ hcl ?_); (focus (exact rfl)); simp only [List.set_cons_zero, List.cons_append, List.nil_append, List.length_cons, List.length_nil, Nat.zero_add])
    | (with_reducible (first
     | refine PW.seq fun K1 hK1 => ?_ | refine PW.region fun K2 hK2 => ?_ | (refine hK3 _ ?_; clear hK3) | (refine opsP_nil ?_; refine hK2 _ ?_; clear hK2) | refine litX_old ?_ | refine litC_data ?_ | (refine Exists.intro _ (Exists.intro _ (And.intro rfl (And.intro rfl (And.intro ?_ ?_)))); focus omega) | (refine hK1 _ ?_; clear hK1) | refine nilC_intro (fun hz => ?_) ?_
     | refine PW.block ?_ | refine PW.skip ?_ | refine PW.exit ?_ | refine PW.ret ?_ | (refine hX1 ?_; clear hX1 hY1; try simp only [hb]) | (refine hY1 ?_; clear hX1 hY1; try simp only [hb]) | exact co_refl _ | exact co_own _ _ _ | exact co_nilsB | exact co_nilsL _ _))
    | ((first | (with_reducible refine wantB_intro (fun hb => ?_) (fun hb => ?_)) | (with_reducible refine condB_intro (fun hb => ?_) (fun hb => ?_))) <;> ((try (have hp := hb; simp only [PmH, beq_iff_eq, beq_eq_false_iff_ne, ne_eq] at hp)); try simp only [hb, Bool.not_true, Bool.not_false]))
    | ((with_reducible refine And.intro ?_ ?_); (focus (first | omega | (simp; done) | assumption)))
    | (simp only [thenP, blockP, Nat.reduceEqDiff, ↓reduceIte]; (try ((repeat (fail_if_success (with_reducible refine hK1 _ ?_)); clear hK1); (with_reducible refine hK1 _ ?_); clear hK1)))
    | (with_reducible omega)
    | (assumption)
    | ((with_reducible refine opsP_consD (d := 6) fun K3 hK3 => ?_); simp only [wantP, opP, valP, Uy, U0, Ur, Us, List.mapM_cons, List.mapM_nil, Uw, Ux]; simp (disch := omega) only [wantP, wantB_tt, wantB_ff, wantB_tf, wantB_ft, opP, valP, St.eval, St.put, upd_app, iniT_app, avOf, avOf1, nom, cellsA, AV.okv, loadA, lenP, binP, intsP, intP, strP, eqP, nilP, convP, unP, builtinP, appP, srcA, srcTy, bsz, U0, U1, dvEqC, eqAll, srcAll, srcOk, appB, cellsV, maplenP, isMapA, isBsl, viewA, U2, U3, U4, U5, U6, slA, putCells, fillA, buildA, elA, dv1, U7, U8, U9, Ua, Ub, List.getElem?_nil, Uc, Ud, Ue, Uf, Ug, Uh, Ui, Uj, Uk, Ul, Um, Un, Uo, Up, Uq, Ur, Us, Ut, Uu, Uv, List.mapM_cons, List.mapM_nil, Uw, Ux, Uy, Uz, V0, V1, V2, V3, V4, V5, Option.bind_eq_bind, Option.pure_def, V6, V7, V8, V9, Va, Vb, Vc, Vd, Ve, Vt, Int.cast_ofNat_Int, ite_same, UU2, UU3, UU4, UU7, UU8, Vq, UU9, UUa, Vr, Vs, PmL, simprocAttr, PmT, h3, h7, h8, h9, hlt']; (with_reducible refine litX_old ?_); (with_reducible refine litC_own ?_))
    | ((first | ((with_reducible refine opsP_cons fun K3 hK3 => ?_); simp only [wantP, opP, valP, Uy, U0, Ur, Us, List.mapM_cons, List.mapM_nil, Uw, Ux]) | (with_reducible refine PW.condM fun X1 Y1 hX1 hY1 => ?_) | skip); simp (disch := omega) only [wantP, wantB_tt, wantB_ff, wantB_tf, wantB_ft, opP, valP, St.eval, St.put, upd_app, iniT_app, avOf, avOf1, nom, cellsA, AV.okv, loadA, lenP, binP, intsP, intP, strP, eqP, nilP, convP, unP, builtinP, appP, srcA, srcTy, bsz, U0, U1, dvEqC, eqAll, srcAll, srcOk, appB, cellsV, maplenP, isMapA, isBsl, viewA, U2, U3, U4, U5, U6, slA, putCells, fillA, buildA, elA, dv1, U7, U8, U9, Ua, Ub, List.getElem?_nil, Uc, Ud, Ue, Uf, Ug, Uh, Ui, Uj, Uk, Ul, Um, Un, Uo, Up, Uq, Ur, Us, Ut, Uu, Uv, List.mapM_cons, List.mapM_nil, Uw, Ux, Uy, Uz, V0, V1, V2, V3, V4, V5, Option.bind_eq_bind, Option.pure_def, V6, V7, V8, V9, Va, Vb, Vc, Vd, Ve, Vt, Int.cast_ofNat_Int, ite_same, UU2, UU3, UU4, UU7, UU8, Vq, UU9, UUa, Vr, Vs, PmL, simprocAttr, PmT, h3, h7, h8, h9, hlt', retQ, resP, tupA, fg, fgs, condP, condB_t, condB_f]; try (with_reducible (first | exact co_refl _ | exact co_own _ _ _ | exact co_nilsB | exact co_nilsL _ _))))
  all_goals (rw [hb]; exact end_row1 rfl)
theorem pBeginO (l : List Int) (hll : l.length ≤ 10000) : PFun Tryd.prog 41 [il l] nom (orow (begB l)) (rowm (begB l)) := PFun.row1 (pBegin1 l hll)
/-- a struct of two rows -/
def spO (x : List Int × List Int) : AV := .agg [.own 0 1 (encB x.1), .own 1 1 (encB x.2)]
abbrev rwO (l : List Int) : Option RowI := some ⟨5, 1, l.length⟩
abbrev spM (x : List Int × List Int) : Mem := ⟨[], [rwO x.1, rwO x.2]⟩
theorem subM_rows {bx : List (Option (TypeId × List AV))} {rs rr : List (Option RowI)} : SubM ⟨bx, rs ++ rr⟩ ⟨[], rs⟩ := by
  refine ⟨by simp, by simp, fun j e cs hj => by simp at hj, fun j i hj => ?_⟩
  simp only at hj ⊢
  rw [List.getElem?_append_left (List.getElem?_eq_some_iff.1 hj).1]
  exact hj
theorem end_sp {bx : List (Option (TypeId × List AV))} {a b : List Int} {na nb : Nat} {r : List (Option RowI)} (ha : na = a.length) (hb : nb = b.length) : Co (.agg [.own 0 1 (encB a), .own 1 1 (encB b)]) (spO (a, b)) ∧ SubM ⟨bx, some ⟨5, 1, na⟩ :: some ⟨5, 1, nb⟩ :: r⟩ (spM (a, b)) := by
  subst ha hb
  exact ⟨co_refl _, subM_rows (rs := [_, _])⟩
theorem pCatO : PFun Tryd.prog 22 [] nom (spO ([1], [2])) (spM ([1], [2])) := by
  refine fun_intro Tryd.func22 rfl rfl rfl 4 rfl ⟨Nat.zero_le _, Nat.zero_le _⟩ (fun hh => ?_)
  repeat' (first
    | (with_reducible (first
     | refine PW.seq fun K1 hK1 => ?_ | refine PW.region fun K2 hK2 => ?_ | (refine hK3 _ ?_; clear hK3) | (refine opsP_nil ?_; refine hK2 _ ?_; clear hK2) | refine litX_old ?_ | refine litC_data ?_ | (refine Exists.intro _ (Exists.intro _ (And.intro rfl (And.intro rfl (And.intro ?_ ?_)))); focus omega) | (refine hK1 _ ?_; clear hK1) | refine nilC_intro (fun hz => ?_) ?_
     | refine PW.block ?_ | refine PW.skip ?_ | refine PW.exit ?_ | refine PW.ret ?_ | (refine hX1 ?_; clear hX1 hY1; try simp only [hb]) | (refine hY1 ?_; clear hX1 hY1; try simp only [hb]) | exact co_refl _ | exact co_own _ _ _ | exact co_nilsB | exact co_nilsL _ _))
    | ((first | (with_reducible refine wantB_intro (fun hb => ?_) (fun hb => ?_)) | (with_reducible refine condB_intro (fun hb => ?_) (fun hb => ?_))) <;> ((try (have hp := hb; simp only [PmH, beq_iff_eq, beq_eq_false_iff_ne, ne_eq] at hp)); try simp only [hb, Bool.not_true, Bool.not_false]))
    | ((with_reducible refine And.intro ?_ ?_); (focus (first | omega | (simp; done) | assumption)))
    | (simp only [thenP, blockP, Nat.reduceEqDiff, ↓reduceIte]; (try ((repeat (fail_if_success (with_reducible refine hK1 _ ?_)); clear hK1); (with_reducible refine hK1 _ ?_); clear hK1)))
    | (with_reducible omega)
    | (assumption)
    | ((with_reducible refine opsP_consD (d := 1) fun K3 hK3 => ?_); simp only [wantP, opP, valP, Uy, U0, Ur, Us, List.mapM_cons, List.mapM_nil, Uw, Ux]; simp (disch := omega) only [wantP, wantB_tt, wantB_ff, wantB_tf, wantB_ft, opP, valP, St.eval, St.put, upd_app, iniT_app, avOf, avOf1, nom, cellsA, AV.okv, loadA, lenP, binP, intsP, intP, strP, eqP, nilP, convP, unP, builtinP, bsz, U0, U1, dvEqC, eqAll, cellsV, maplenP, isMapA, isBsl, viewA, U2, U3, U4, U5, U6, slA, putCells, fillA, buildA, elA, dv1, U7, U8, U9, Ua, Ub, List.getElem?_nil, Uc, Ud, Ue, Uf, Ug, Uh, Ui, Uj, Uk, Ul, Um, Un, Uo, Up, Uq, Ur, Us, Ut, Uu, Uv, List.mapM_cons, List.mapM_nil, Uw, Ux, Uy, Uz, V0, V1, V2, V3, V4, V5, Option.bind_eq_bind, Option.pure_def, V6, V7, V8, V9, Va, Vb, Vc, Vd, Ve, Vt, Int.cast_ofNat_Int, ite_same, UU2, UU3, UU4, UU7, UU8, Vq, UU9, UUa, Vr, Vs, PmL, simprocAttr, PmT]; (with_reducible refine litX_old ?_); (with_reducible refine litC_own ?_))
    | ((with_reducible refine opsP_consD (d := 2) fun K3 hK3 => ?_); simp only [wantP, opP, valP, Uy, U0, Ur, Us, List.mapM_cons, List.mapM_nil, Uw, Ux]; simp (disch := omega) only [wantP, wantB_tt, wantB_ff, wantB_tf, wantB_ft, opP, valP, St.eval, St.put, upd_app, iniT_app, avOf, avOf1, nom, cellsA, AV.okv, loadA, lenP, binP, intsP, intP, strP, eqP, nilP, convP, unP, builtinP, bsz, U0, U1, dvEqC, eqAll, cellsV, maplenP, isMapA, isBsl, viewA, U2, U3, U4, U5, U6, slA, putCells, fillA, buildA, elA, dv1, U7, U8, U9, Ua, Ub, List.getElem?_nil, Uc, Ud, Ue, Uf, Ug, Uh, Ui, Uj, Uk, Ul, Um, Un, Uo, Up, Uq, Ur, Us, Ut, Uu, Uv, List.mapM_cons, List.mapM_nil, Uw, Ux, Uy, Uz, V0, V1, V2, V3, V4, V5, Option.bind_eq_bind, Option.pure_def, V6, V7, V8, V9, Va, Vb, Vc, Vd, Ve, Vt, Int.cast_ofNat_Int, ite_same, UU2, UU3, UU4, UU7, UU8, Vq, UU9, UUa, Vr, Vs, PmL, simprocAttr, PmT]; (with_reducible refine litX_old ?_); (with_reducible refine litC_own ?_))
    | ((first | ((with_reducible refine opsP_cons fun K3 hK3 => ?_); simp only [wantP, opP, valP, Uy, U0, Ur, Us, List.mapM_cons, List.mapM_nil, Uw, Ux]) | (with_reducible refine PW.condM fun X1 Y1 hX1 hY1 => ?_) | skip); simp (disch := omega) only [wantP, wantB_tt, wantB_ff, wantB_tf, wantB_ft, opP, valP, St.eval, St.put, upd_app, iniT_app, avOf, avOf1, nom, cellsA, AV.okv, loadA, lenP, binP, intsP, intP, strP, eqP, nilP, convP, unP, builtinP, bsz, U0, U1, dvEqC, eqAll, cellsV, maplenP, isMapA, isBsl, viewA, U2, U3, U4, U5, U6, slA, putCells, fillA, buildA, elA, dv1, U7, U8, U9, Ua, Ub, List.getElem?_nil, Uc, Ud, Ue, Uf, Ug, Uh, Ui, Uj, Uk, Ul, Um, Un, Uo, Up, Uq, Ur, Us, Ut, Uu, Uv, List.mapM_cons, List.mapM_nil, Uw, Ux, Uy, Uz, V0, V1, V2, V3, V4, V5, Option.bind_eq_bind, Option.pure_def, V6, V7, V8, V9, Va, Vb, Vc, Vd, Ve, Vt, Int.cast_ofNat_Int, ite_same, UU2, UU3, UU4, UU7, UU8, Vq, UU9, UUa, Vr, Vs, PmL, simprocAttr, PmT, retQ, resP, tupA, fg, fgs, condP, condB_t, condB_f]; try (with_reducible (first | exact co_refl _ | exact co_own _ _ _ | exact co_nilsB | exact co_nilsL _ _))))
  all_goals exact end_sp rfl rfl
theorem pTabO (n : Int) : PFun Tryd.prog 23 [.d (.int .i64 n)] nom (spO (tabSp n)) (spM (tabSp n)) := by
  refine fun_intro Tryd.func23 rfl rfl rfl 18 rfl ⟨Nat.zero_le _, Nat.zero_le _⟩ (fun hh => ?_)
  have hn := has_int (hh (.d (.int .i64 n)) (by simp))
  rw [wf_i64] at hn
  simp only [Bool.and_eq_true, decide_eq_true_eq] at hn
  have h1 := pBeginO [n] (by simp)
  have h2 := pBeginO [n + 1] (by simp)
  unfold orow rowm at h1 h2
  by_cases hg : n = 9223372036854775807
  · have hg' := eq_true hg
    have e : tabSp n = (begB [n], [3]) := by unfold tabSp; rw [if_pos hg]
    obtain ⟨b1, hb1⟩ : ∃ b, begB [n] = b := ⟨_, rfl⟩
    rw [hb1] at h1 e
    repeat' (first
      | (with_reducible (first
       | refine PW.seq fun K1 hK1 => ?_ | refine PW.region fun K2 hK2 => ?_ | (refine hK3 _ ?_; clear hK3) | (refine opsP_nil ?_; refine hK2 _ ?_; clear hK2) | refine litX_old ?_ | refine litC_data ?_ | (refine Exists.intro _ (Exists.intro _ (And.intro rfl (And.intro rfl (And.intro ?_ ?_)))); focus omega) | (refine hK1 _ ?_; clear hK1) | refine nilC_intro (fun hz => ?_) ?_
       | refine PW.block ?_ | refine PW.skip ?_ | refine PW.exit ?_ | refine PW.ret ?_ | (refine hX1 ?_; clear hX1 hY1; try simp only [hb]) | (refine hY1 ?_; clear hX1 hY1; try simp only [hb]) | exact co_refl _ | exact co_own _ _ _ | exact co_nilsB | exact co_nilsL _ _))
      | ((first | (with_reducible refine wantB_intro (fun hb => ?_) (fun hb => ?_)) | (with_reducible refine condB_intro (fun hb => ?_) (fun hb => ?_))) <;> ((try (have hp := hb; simp only [PmH, beq_iff_eq, beq_eq_false_iff_ne, ne_eq] at hp)); try simp only [hb, Bool.not_true, Bool.not_false]))
      | ((with_reducible refine cC_new ?_ (h1) ?_); (focus ((repeat' constructor) <;> (simp only [purAs, purA, Vf, Bool.and_self, eI, hg']; done))))
      | ((with_reducible refine And.intro ?_ ?_); (focus (first | omega | (simp; done) | assumption)))
      | (simp only [thenP, blockP, Nat.reduceEqDiff, ↓reduceIte]; (try ((repeat (fail_if_success (with_reducible refine hK1 _ ?_)); clear hK1); (with_reducible refine hK1 _ ?_); clear hK1)))
      | (with_reducible omega)
      | (assumption)
      | ((with_reducible refine opsP_consD (d := 8) fun K3 hK3 => ?_); simp only [wantP, opP, valP, Uy, U0, Ur, Us, List.mapM_cons, List.mapM_nil, Uw, Ux]; simp (disch := omega) only [wantP, wantB_tt, wantB_ff, wantB_tf, wantB_ft, opP, valP, St.eval, St.put, upd_app, iniT_app, avOf, avOf1, nom, cellsA, AV.okv, loadA, lenP, binP, intsP, intP, strP, eqP, nilP, convP, unP, builtinP, bsz, U0, U1, dvEqC, eqAll, cellsV, maplenP, isMapA, isBsl, viewA, U2, U3, U4, U5, U6, slA, putCells, fillA, buildA, elA, dv1, U7, U8, U9, Ua, Ub, List.getElem?_nil, Uc, Ud, Ue, Uf, Ug, Uh, Ui, Uj, Uk, Ul, Um, Un, Uo, Up, Uq, Ur, Us, Ut, Uu, Uv, List.mapM_cons, List.mapM_nil, Uw, Ux, Uy, Uz, V0, V1, V2, V3, V4, V5, Option.bind_eq_bind, Option.pure_def, V6, V7, V8, V9, Va, Vb, Vc, Vd, Ve, Vt, Int.cast_ofNat_Int, ite_same, UU2, UU3, UU4, UU7, UU8, Vq, UU9, UUa, Vr, Vs, PmL, simprocAttr, PmT, eI, hg']; (with_reducible refine litX_old ?_); (with_reducible refine litC_own ?_))
      | ((first | ((with_reducible refine opsP_cons fun K3 hK3 => ?_); simp only [wantP, opP, valP, Uy, U0, Ur, Us, List.mapM_cons, List.mapM_nil, Uw, Ux]) | (with_reducible refine PW.condM fun X1 Y1 hX1 hY1 => ?_) | skip); simp (disch := omega) only [wantP, wantB_tt, wantB_ff, wantB_tf, wantB_ft, opP, valP, St.eval, St.put, upd_app, iniT_app, avOf, avOf1, nom, cellsA, AV.okv, loadA, lenP, binP, intsP, intP, strP, eqP, nilP, convP, unP, builtinP, bsz, U0, U1, dvEqC, eqAll, cellsV, maplenP, isMapA, isBsl, viewA, U2, U3, U4, U5, U6, slA, putCells, fillA, buildA, elA, dv1, U7, U8, U9, Ua, Ub, List.getElem?_nil, Uc, Ud, Ue, Uf, Ug, Uh, Ui, Uj, Uk, Ul, Um, Un, Uo, Up, Uq, Ur, Us, Ut, Uu, Uv, List.mapM_cons, List.mapM_nil, Uw, Ux, Uy, Uz, V0, V1, V2, V3, V4, V5, Option.bind_eq_bind, Option.pure_def, V6, V7, V8, V9, Va, Vb, Vc, Vd, Ve, Vt, Int.cast_ofNat_Int, ite_same, UU2, UU3, UU4, UU7, UU8, Vq, UU9, UUa, Vr, Vs, PmL, simprocAttr, PmT, eI, hg', retQ, resP, tupA, fg, fgs, condP, condB_t, condB_f]; try (with_reducible (first | exact co_refl _ | exact co_own _ _ _ | exact co_nilsB | exact co_nilsL _ _))))
    all_goals (rw [e]; exact end_sp rfl rfl)
  · have hg' := eq_false hg
    have hw : IntKind.i64.wrap (n + 1) = n + 1 := IntWalk.i64_in (n + 1) (by omega)
    have e : tabSp n = (begB [n], begB [n + 1]) := by unfold tabSp; rw [if_neg hg]
    obtain ⟨b1, hb1⟩ : ∃ b, begB [n] = b := ⟨_, rfl⟩
    obtain ⟨b2, hb2⟩ : ∃ b, begB [n + 1] = b := ⟨_, rfl⟩
    rw [hb1] at h1 e
    rw [hb2] at h2 e
    repeat' (first
      | (with_reducible (first
       | refine PW.seq fun K1 hK1 => ?_ | refine PW.region fun K2 hK2 => ?_ | (refine hK3 _ ?_; clear hK3) | (refine opsP_nil ?_; refine hK2 _ ?_; clear hK2) | refine litX_old ?_ | refine litC_data ?_ | (refine Exists.intro _ (Exists.intro _ (And.intro rfl (And.intro rfl (And.intro ?_ ?_)))); focus omega) | (refine hK1 _ ?_; clear hK1) | refine nilC_intro (fun hz => ?_) ?_
       | refine PW.block ?_ | refine PW.skip ?_ | refine PW.exit ?_ | refine PW.ret ?_ | (refine hX1 ?_; clear hX1 hY1; try simp only [hb]) | (refine hY1 ?_; clear hX1 hY1; try simp only [hb]) | exact co_refl _ | exact co_own _ _ _ | exact co_nilsB | exact co_nilsL _ _))
      | ((first | (with_reducible refine wantB_intro (fun hb => ?_) (fun hb => ?_)) | (with_reducible refine condB_intro (fun hb => ?_) (fun hb => ?_))) <;> ((try (have hp := hb; simp only [PmH, beq_iff_eq, beq_eq_false_iff_ne, ne_eq] at hp)); try simp only [hb, Bool.not_true, Bool.not_false]))
      | ((with_reducible refine cC_new ?_ (h1) ?_); (focus ((repeat' constructor) <;> (simp only [purAs, purA, Vf, Bool.and_self, eI, hg', hw]; done))))
      | ((with_reducible refine cC_new ?_ (h2) ?_); (focus ((repeat' constructor) <;> (simp only [purAs, purA, Vf, Bool.and_self, eI, hg', hw]; done))))
      | ((with_reducible refine And.intro ?_ ?_); (focus (first | omega | (simp; done) | assumption)))
      | (simp only [thenP, blockP, Nat.reduceEqDiff, ↓reduceIte]; (try ((repeat (fail_if_success (with_reducible refine hK1 _ ?_)); clear hK1); (with_reducible refine hK1 _ ?_); clear hK1)))
      | (with_reducible omega)
      | (assumption)
      | ((first | ((with_reducible refine opsP_cons fun K3 hK3 => ?_); simp only [wantP, opP, valP, Uy, U0, Ur, Us, List.mapM_cons, List.mapM_nil, Uw, Ux]) | (with_reducible refine PW.condM fun X1 Y1 hX1 hY1 => ?_) | skip); simp (disch := omega) only [wantP, wantB_tt, wantB_ff, wantB_tf, wantB_ft, opP, valP, St.eval, St.put, upd_app, iniT_app, avOf, avOf1, nom, cellsA, AV.okv, loadA, lenP, binP, intsP, intP, strP, eqP, nilP, convP, unP, builtinP, bsz, U0, U1, dvEqC, eqAll, cellsV, maplenP, isMapA, isBsl, viewA, U2, U3, U4, U5, U6, slA, putCells, fillA, buildA, elA, dv1, U7, U8, U9, Ua, Ub, List.getElem?_nil, Uc, Ud, Ue, Uf, Ug, Uh, Ui, Uj, Uk, Ul, Um, Un, Uo, Up, Uq, Ur, Us, Ut, Uu, Uv, List.mapM_cons, List.mapM_nil, Uw, Ux, Uy, Uz, V0, V1, V2, V3, V4, V5, Option.bind_eq_bind, Option.pure_def, V6, V7, V8, V9, Va, Vb, Vc, Vd, Ve, Vt, Int.cast_ofNat_Int, ite_same, UU2, UU3, UU4, UU7, UU8, Vq, UU9, UUa, Vr, Vs, PmL, simprocAttr, PmT, eI, hg', hw, retQ, resP, tupA, fg, fgs, condP, condB_t, condB_f]; try (with_reducible (first | exact co_refl _ | exact co_own _ _ _ | exact co_nilsB | exact co_nilsL _ _))))
    all_goals (rw [e]; exact end_sp rfl rfl)
/-- of three rows the first and the last -/
theorem PFun.sel02 {P : Program} {f : Nat} {args : List AV} {a c : List Int} {x : Option RowI} (h : PFun P f args nom (.agg [.own 0 1 (encB a), .own 2 1 (encB c)]) ⟨[], [rwO a, x, rwO c]⟩) : PFun P f args nom (spO (a, c)) (spM (a, c)) := fun G w vs hm ha =>
  (h G w vs hm ha).mono fun v w' ⟨G', k1, k2, k3⟩ => by
    have up : ∀ (r : Nat) (i : RowI), [rwO a, rwO c][r]? = some (some i) → [rwO a, x, rwO c][r * 2]? = some (some i) := fun r i hr => by
      match r with
      | 0 => exact hr
      | 1 => exact hr
      | r + 2 => simp at hr
    have hmut : ∀ b o, Mut { G' with ri := fun r => G'.ri (r * 2), rc := fun r => G'.rc (r * 2) } (spM (a, c)) b o → Mut G' ⟨[], [rwO a, x, rwO c]⟩ b o := by
      rintro b o (⟨id, e', cs, hb, -⟩ | ⟨r, i, hr, hg, hn⟩)
      · simp at hb
      · exact .inr ⟨r * 2, i, up r i hr, hg, hn⟩
    refine ⟨{ G' with ri := fun r => G'.ri (r * 2), rc := fun r => G'.rc (r * 2) }, ⟨k1.avlt, fun id e' cs hb => by simp at hb, fun r i hr => k1.row (r * 2) i (up r i hr), fun i j x y hi => by simp at hi, fun i j x y g hi hj h1 h2 => ?_, fun i j x y hi => by simp at hi⟩,
      ⟨k2.av, k2.fr, fun b o hk => k2.mt b o (hmut b o hk), fun id hid => by simp [nom] at hid, Nat.zero_le _, Nat.zero_le _, fun r i' hr => by simp [nom] at hr⟩, ?_⟩
    · have := k1.rr (i * 2) (j * 2) x y g (up i x hi) (up j y hj) h1 h2
      omega
    · have hN : ∀ b o, NA { G' with ri := fun r => G'.ri (r * 2), rc := fun r => G'.rc (r * 2) } (spM (a, c)) b o → NA G' ⟨[], [rwO a, x, rwO c]⟩ b o := fun b o hk => by
        rcases hk with hk | hk
        · exact .inl hk
        · exact .inr (hmut b o hk)
      unfold spO
      unfold RelA at k3 ⊢
      obtain ⟨us, rfl, q1, q2⟩ := k3
      refine ⟨us, rfl, ?_, q2⟩
      unfold RelAs RelAs RelAs at q1 ⊢
      obtain ⟨v1, us1, rfl, g1, v2, us2, rfl, g2, g3⟩ := q1
      refine ⟨v1, _, rfl, ?_, v2, us2, rfl, ?_, g3⟩
      · unfold RelA at g1 ⊢
        exact ⟨by simp, RelD.mono (Pre.same hN) _ _ g1.2.1, fun i hi => g1.2.2 i hi⟩
      · unfold RelA at g2 ⊢
        exact ⟨by simp, RelD.mono (Pre.same hN) _ _ g2.2.1, fun i hi => g2.2.2 i hi⟩
theorem pIxO (n i : Int) : PFun Tryd.prog 24 [.d (.int .i64 n), .d (.int .i64 i)] nom (spO (ixSp n i)) (spM (ixSp n i)) := by
  by_cases hg : i = 9223372036854775807
  · have e : ixSp n i = (begB [n, i], (tabSp n).2) := by unfold ixSp; rw [if_pos hg]
    rw [e]
    refine PFun.sel02 (x := rwO (tabSp n).1) ?_
    refine fun_intro Tryd.func24 rfl rfl rfl 25 rfl ⟨Nat.zero_le _, Nat.zero_le _⟩ (fun hh => ?_)
    have hg' := eq_true hg
    have h1 := pBeginO [n, i] (by simp)
    have h3 := pTabO n
    unfold orow rowm at h1
    unfold spO spM at h3
    obtain ⟨b1, hb1⟩ : ∃ b, begB [n, i] = b := ⟨_, rfl⟩
    obtain ⟨⟨t1, t2⟩, ht⟩ : ∃ b, tabSp n = b := ⟨_, rfl⟩
    rw [hb1] at h1 ⊢
    rw [ht] at h3 ⊢
    simp only at h3 ⊢
    repeat' (first
      | ((with_reducible refine callP_new2 ?_ h3 ?_); (focus (exact rfl)); simp only [List.cons_append, List.nil_append, List.length_cons, List.length_nil, Nat.zero_add, Nat.reduceAdd])
      | (with_reducible (first
       | refine PW.seq fun K1 hK1 => ?_ | refine PW.region fun K2 hK2 => ?_ | (refine hK3 _ ?_; clear hK3) | (refine opsP_nil ?_; refine hK2 _ ?_; clear hK2) | refine litX_old ?_ | refine litC_data ?_ | (refine Exists.intro _ (Exists.intro _ (And.intro rfl (And.intro rfl (And.intro ?_ ?_)))); focus omega) | (refine hK1 _ ?_; clear hK1) | refine nilC_intro (fun hz => ?_) ?_
       | refine PW.block ?_ | refine PW.skip ?_ | refine PW.exit ?_ | refine PW.ret ?_ | (refine hX1 ?_; clear hX1 hY1; try simp only [hb]) | (refine hY1 ?_; clear hX1 hY1; try simp only [hb]) | exact co_refl _ | exact co_own _ _ _ | exact co_nilsB | exact co_nilsL _ _))
      | ((first | (with_reducible refine wantB_intro (fun hb => ?_) (fun hb => ?_)) | (with_reducible refine condB_intro (fun hb => ?_) (fun hb => ?_))) <;> ((try (have hp := hb; simp only [PmH, beq_iff_eq, beq_eq_false_iff_ne, ne_eq] at hp)); try simp only [hb, Bool.not_true, Bool.not_false]))
      | ((with_reducible refine cC_new ?_ (h1) ?_); (focus ((repeat' constructor) <;> (simp only [purAs, purA, Vf, Bool.and_self, eI, hg']; done))))
      | ((with_reducible refine And.intro ?_ ?_); (focus (first | omega | (simp; done) | assumption)))
      | (simp only [thenP, blockP, Nat.reduceEqDiff, ↓reduceIte]; (try ((repeat (fail_if_success (with_reducible refine hK1 _ ?_)); clear hK1); (with_reducible refine hK1 _ ?_); clear hK1)))
      | (with_reducible omega)
      | (assumption)
      | ((first | ((with_reducible refine opsP_cons fun K3 hK3 => ?_); simp only [wantP, opP, valP, Uy, U0, Ur, Us, List.mapM_cons, List.mapM_nil, Uw, Ux]) | (with_reducible refine PW.condM fun X1 Y1 hX1 hY1 => ?_) | skip); simp (disch := omega) only [wantP, wantB_tt, wantB_ff, wantB_tf, wantB_ft, opP, valP, St.eval, St.put, upd_app, iniT_app, avOf, avOf1, nom, cellsA, AV.okv, loadA, lenP, binP, intsP, intP, strP, eqP, nilP, convP, unP, builtinP, bsz, U0, U1, dvEqC, eqAll, cellsV, maplenP, isMapA, isBsl, viewA, U2, U3, U4, U5, U6, slA, putCells, fillA, buildA, elA, dv1, U7, U8, U9, Ua, Ub, List.getElem?_nil, Uc, Ud, Ue, Uf, Ug, Uh, Ui, Uj, Uk, Ul, Um, Un, Uo, Up, Uq, Ur, Us, Ut, Uu, Uv, List.mapM_cons, List.mapM_nil, Uw, Ux, Uy, Uz, V0, V1, V2, V3, V4, V5, Option.bind_eq_bind, Option.pure_def, V6, V7, V8, V9, Va, Vb, Vc, Vd, Ve, Vt, Int.cast_ofNat_Int, ite_same, UU2, UU3, UU4, UU7, UU8, Vq, UU9, UUa, Vr, Vs, PmL, simprocAttr, PmT, eI, hg', retQ, resP, tupA, fg, fgs, condP, condB_t, condB_f]; try (with_reducible (first | exact co_refl _ | exact co_own _ _ _ | exact co_nilsB | exact co_nilsL _ _))))
    all_goals exact ⟨co_refl _, subM_rows (rs := [_, _, _]) (rr := [])⟩
  · have e : ixSp n i = (begB [n, i], begB [n, i + 1]) := by unfold ixSp; rw [if_neg hg]
    rw [e]
    refine fun_intro Tryd.func24 rfl rfl rfl 25 rfl ⟨Nat.zero_le _, Nat.zero_le _⟩ (fun hh => ?_)
    have hn := has_int (hh (.d (.int .i64 i)) (by simp))
    rw [wf_i64] at hn
    simp only [Bool.and_eq_true, decide_eq_true_eq] at hn
    have hg' := eq_false hg
    have hw : IntKind.i64.wrap (i + 1) = i + 1 := IntWalk.i64_in (i + 1) (by omega)
    have h1 := pBeginO [n, i] (by simp)
    have h2 := pBeginO [n, i + 1] (by simp)
    unfold orow rowm at h1 h2
    obtain ⟨b1, hb1⟩ : ∃ b, begB [n, i] = b := ⟨_, rfl⟩
    obtain ⟨b2, hb2⟩ : ∃ b, begB [n, i + 1] = b := ⟨_, rfl⟩
    rw [hb1] at h1 ⊢
    rw [hb2] at h2 ⊢
    repeat' (first
      | (with_reducible (first
       | refine PW.seq fun K1 hK1 => ?_ | refine PW.region fun K2 hK2 => ?_ | (refine hK3 _ ?_; clear hK3) | (refine opsP_nil ?_; refine hK2 _ ?_; clear hK2) | refine litX_old ?_ | refine litC_data ?_ | (refine Exists.intro _ (Exists.intro _ (And.intro rfl (And.intro rfl (And.intro ?_ ?_)))); focus omega) | (refine hK1 _ ?_; clear hK1) | refine nilC_intro (fun hz => ?_) ?_
       | refine PW.block ?_ | refine PW.skip ?_ | refine PW.exit ?_ | refine PW.ret ?_ | (refine hX1 ?_; clear hX1 hY1; try simp only [hb]) | (refine hY1 ?_; clear hX1 hY1; try simp only [hb]) | exact co_refl _ | exact co_own _ _ _ | exact co_nilsB | exact co_nilsL _ _))
      | ((first | (with_reducible refine wantB_intro (fun hb => ?_) (fun hb => ?_)) | (with_reducible refine condB_intro (fun hb => ?_) (fun hb => ?_))) <;> ((try (have hp := hb; simp only [PmH, beq_iff_eq, beq_eq_false_iff_ne, ne_eq] at hp)); try simp only [hb, Bool.not_true, Bool.not_false]))
      | ((with_reducible refine cC_new ?_ (h1) ?_); (focus ((repeat' constructor) <;> (simp only [purAs, purA, Vf, Bool.and_self, eI, hg', hw]; done))))
      | ((with_reducible refine cC_new ?_ (h2) ?_); (focus ((repeat' constructor) <;> (simp only [purAs, purA, Vf, Bool.and_self, eI, hg', hw]; done))))
      | ((with_reducible refine And.intro ?_ ?_); (focus (first | omega | (simp; done) | assumption)))
      | (simp only [thenP, blockP, Nat.reduceEqDiff, ↓reduceIte]; (try ((repeat (fail_if_success (with_reducible refine hK1 _ ?_)); clear hK1); (with_reducible refine hK1 _ ?_); clear hK1)))
      | (with_reducible omega)
      | (assumption)
      | ((first | ((with_reducible refine opsP_cons fun K3 hK3 => ?_); simp only [wantP, opP, valP, Uy, U0, Ur, Us, List.mapM_cons, List.mapM_nil, Uw, Ux]) | (with_reducible refine PW.condM fun X1 Y1 hX1 hY1 => ?_) | skip); simp (disch := omega) only [wantP, wantB_tt, wantB_ff, wantB_tf, wantB_ft, opP, valP, St.eval, St.put, upd_app, iniT_app, avOf, avOf1, nom, cellsA, AV.okv, loadA, lenP, binP, intsP, intP, strP, eqP, nilP, convP, unP, builtinP, bsz, U0, U1, dvEqC, eqAll, cellsV, maplenP, isMapA, isBsl, viewA, U2, U3, U4, U5, U6, slA, putCells, fillA, buildA, elA, dv1, U7, U8, U9, Ua, Ub, List.getElem?_nil, Uc, Ud, Ue, Uf, Ug, Uh, Ui, Uj, Uk, Ul, Um, Un, Uo, Up, Uq, Ur, Us, Ut, Uu, Uv, List.mapM_cons, List.mapM_nil, Uw, Ux, Uy, Uz, V0, V1, V2, V3, V4, V5, Option.bind_eq_bind, Option.pure_def, V6, V7, V8, V9, Va, Vb, Vc, Vd, Ve, Vt, Int.cast_ofNat_Int, ite_same, UU2, UU3, UU4, UU7, UU8, Vq, UU9, UUa, Vr, Vs, PmL, simprocAttr, PmT, eI, hg', hw, retQ, resP, tupA, fg, fgs, condP, condB_t, condB_f]; try (with_reducible (first | exact co_refl _ | exact co_own _ _ _ | exact co_nilsB | exact co_nilsL _ _))))
    all_goals exact end_sp rfl rfl
end PM
end Go.Proofs.YtfkemeamimcnjaaDoor
