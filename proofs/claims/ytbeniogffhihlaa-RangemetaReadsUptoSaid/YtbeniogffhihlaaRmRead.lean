/- rangemeta.Read of what was laid. -/
import Derived.Test.YtbeniogffhihlaaRmP11
import Derived.Test.YtbeniogffhihlaaSame
import Derived.Test.YtbeniogffhihlaaRm
set_option linter.unusedVariables false
set_option linter.unusedSimpArgs false
namespace Go.Proofs.Ytbeniogffhihlaa
open Go.RowKit
namespace PM
theorem arr_list (a : Array Value) {n : Nat} (h : a.size = n) : a = ((List.range n).map fun i => a.getD i undef).toArray := by
  refine Array.ext (by simp [h]) fun i h1 h2 => ?_
  simp [Array.getD, h1]
set_option maxRecDepth 100000 in
theorem arr78 (a : Array Value) (h : a.size = 78) : ∃ x0 x1 x2 x3 x4 x5 x6 x7 x8 x9 x10 x11 x12 x13 x14 x15 x16 x17 x18 x19 x20 x21 x22 x23 x24 x25 x26 x27 x28 x29 x30 x31 x32 x33 x34 x35 x36 x37 x38 x39 x40 x41 x42 x43 x44 x45 x46 x47 x48 x49 x50 x51 x52 x53 x54 x55 x56 x57 x58 x59 x60 x61 x62 x63 x64 x65 x66 x67 x68 x69 x70 x71 x72 x73 x74 x75 x76 x77, a = (x0 :: x1 :: x2 :: x3 :: x4 :: x5 :: x6 :: x7 :: x8 :: x9 :: x10 :: x11 :: x12 :: x13 :: x14 :: x15 :: x16 :: x17 :: x18 :: x19 :: x20 :: x21 :: x22 :: x23 :: x24 :: x25 :: x26 :: x27 :: x28 :: x29 :: x30 :: x31 :: x32 :: x33 :: x34 :: x35 :: x36 :: x37 :: x38 :: x39 :: x40 :: x41 :: x42 :: x43 :: x44 :: x45 :: x46 :: x47 :: x48 :: x49 :: x50 :: x51 :: x52 :: x53 :: x54 :: x55 :: x56 :: x57 :: x58 :: x59 :: x60 :: x61 :: x62 :: x63 :: x64 :: x65 :: x66 :: x67 :: x68 :: x69 :: x70 :: x71 :: x72 :: x73 :: x74 :: x75 :: x76 :: x77 :: []).toArray :=
  ⟨a.getD 0 undef, a.getD 1 undef, a.getD 2 undef, a.getD 3 undef, a.getD 4 undef, a.getD 5 undef, a.getD 6 undef, a.getD 7 undef, a.getD 8 undef, a.getD 9 undef, a.getD 10 undef, a.getD 11 undef, a.getD 12 undef, a.getD 13 undef, a.getD 14 undef, a.getD 15 undef, a.getD 16 undef, a.getD 17 undef, a.getD 18 undef, a.getD 19 undef, a.getD 20 undef, a.getD 21 undef, a.getD 22 undef, a.getD 23 undef, a.getD 24 undef, a.getD 25 undef, a.getD 26 undef, a.getD 27 undef, a.getD 28 undef, a.getD 29 undef, a.getD 30 undef, a.getD 31 undef, a.getD 32 undef, a.getD 33 undef, a.getD 34 undef, a.getD 35 undef, a.getD 36 undef, a.getD 37 undef, a.getD 38 undef, a.getD 39 undef, a.getD 40 undef, a.getD 41 undef, a.getD 42 undef, a.getD 43 undef, a.getD 44 undef, a.getD 45 undef, a.getD 46 undef, a.getD 47 undef, a.getD 48 undef, a.getD 49 undef, a.getD 50 undef, a.getD 51 undef, a.getD 52 undef, a.getD 53 undef, a.getD 54 undef, a.getD 55 undef, a.getD 56 undef, a.getD 57 undef, a.getD 58 undef, a.getD 59 undef, a.getD 60 undef, a.getD 61 undef, a.getD 62 undef, a.getD 63 undef, a.getD 64 undef, a.getD 65 undef, a.getD 66 undef, a.getD 67 undef, a.getD 68 undef, a.getD 69 undef, a.getD 70 undef, a.getD 71 undef, a.getD 72 undef, a.getD 73 undef, a.getD 74 undef, a.getD 75 undef, a.getD 76 undef, a.getD 77 undef, arr_list a h⟩
set_option maxRecDepth 100000 in
set_option maxHeartbeats 4000000 in
theorem pReadOk (l : List Rg) (h : okL l = true) : Pure Try.prog 34 [bs (Codec.numN l.length ++ rgsT l)] (.tup [rl l, .d (.int .i64 0)]) := by
  refine pure_intro Try.func34 rfl rfl rfl 78 rfl (fun hh => ?_)
  have h' := h
  unfold okL at h'
  simp only [Bool.and_eq_true, decide_eq_true_eq] at h'
  obtain ⟨h255, hall⟩ := h'
  repeat' (first
    | (with_reducible (first
     | refine PW.seq fun K1 hK1 => ?_ | refine PW.region fun K2 hK2 => ?_ | (refine hK3 _ ?_; clear hK3) | (refine opsP_nil ?_; refine hK2 _ ?_; clear hK2) | refine litX_old ?_ | refine litC_data ?_ | (refine Exists.intro _ (Exists.intro _ (And.intro rfl (And.intro rfl (And.intro ?_ ?_)))); focus omega) | (refine hK1 _ ?_; clear hK1) | refine nilC_intro (fun hz => ?_) ?_
     | refine PW.block ?_ | refine PW.skip ?_ | refine PW.exit ?_ | refine PW.ret ?_ | (refine hX1 ?_; clear hX1 hY1; try simp only [hb]) | (refine hY1 ?_; clear hX1 hY1; try simp only [hb]) | exact co_refl _ | exact co_own _ _ _ | exact co_nilsB | exact co_nilsL _ _))
    | ((first | (with_reducible refine wantB_intro (fun hb => ?_) (fun hb => ?_)) | (with_reducible refine condB_intro (fun hb => ?_) (fun hb => ?_))) <;> ((try (have hp := hb; simp only [PmH, beq_iff_eq, beq_eq_false_iff_ne, ne_eq] at hp)); try simp only [hb, Bool.not_true, Bool.not_false]))
    | ((with_reducible refine cC_recv (cs := ?_) ?_ ?_ ?_ ?_ (pnumberOk l.length (rgsT l) false ?_) (fun _ => ?_)); rotate_left 1; (focus (first | exact rfl | (simp only [Ua, Ub]; rfl))); (focus ((repeat' (first | refine .cons ?_ ?_ | exact .nil | exact .d _ | exact .own _ _ _ | exact .nl | exact .nilsB | exact .nilsL _ _ | exact .nils _ | exact .cp _ | refine .agg ?_ | refine .fn ?_)); done)); (focus ((repeat' (first | refine .cons ?_ ?_ | exact .nil | exact .d _ | exact .own _ _ _ | exact .nl | exact .nilsB | exact .nilsL _ _ | exact .nils _ | exact .cp _ | refine .agg ?_ | refine .fn ?_)); done)); (focus (simp only [purAs, purA, Vf, Bool.and_self]; done)))
    | ((with_reducible refine And.intro ?_ ?_); (focus (first | omega | (simp; done) | assumption)))
    | (simp only [thenP, blockP, Nat.reduceEqDiff, ↓reduceIte]; (try ((repeat (fail_if_success (with_reducible refine hK1 _ ?_)); clear hK1); (with_reducible refine hK1 _ ?_); clear hK1)))
    | (with_reducible omega)
    | (assumption)
    | ((first | ((with_reducible refine opsP_cons fun K3 hK3 => ?_); simp only [wantP, opP, valP, Uy, U0, Ur, Us, List.mapM_cons, List.mapM_nil, Uw, Ux]) | (with_reducible refine PW.condM fun X1 Y1 hX1 hY1 => ?_) | skip); simp (disch := omega) only [wantP, wantB_tt, wantB_ff, wantB_tf, wantB_ft, opP, valP, St.eval, St.put, upd_app, iniT_app, avOf, avOf1, nom, cellsA, AV.okv, loadA, lenP, binP, intsP, intP, strP, eqP, nilP, convP, unP, builtinP, appP, srcA, srcTy, bsz, U0, U1, dvEqC, eqAll, srcAll, srcOk, appB, cellsV, maplenP, isMapA, isBsl, viewA, U2, U3, U4, U5, U6, slA, putCells, fillA, buildA, elA, dv1, U7, U8, U9, Ua, Ub, List.getElem?_nil, Uc, Ud, Ue, Uf, Ug, Uh, Ui, Uj, Uk, Ul, Um, Un, Uo, Up, Uq, Ur, Us, Ut, Uu, Uv, List.mapM_cons, List.mapM_nil, Uw, Ux, Uy, Uz, V0, V1, V2, V3, V4, V5, Option.bind_eq_bind, Option.pure_def, V6, V7, V8, V9, Va, Vb, Vc, Vd, Ve, Vt, Int.cast_ofNat_Int, ite_same, UU2, UU3, UU4, UU7, UU8, Vq, UU9, UUa, Vr, Vs, PmL, simprocAttr, PmT, retQ, resP, tupA, fg, fgs, condP, condB_t, condB_f]; try (with_reducible (first | exact co_refl _ | exact co_own _ _ _ | exact co_nilsB | exact co_nilsL _ _))))
  (with_reducible refine PW.nil2ownL (bx := ?_) Rg.c 5 39 4 (by decide) ?_ ?_ ?_; rotate_left 1; (focus (simp only [upd_app, Nat.reduceEqDiff, ↓reduceIte])); (focus (exact rfl)))
  (with_reducible refine PW.loop (fun n s => ∃ k : Nat, s.t 0 = bs (Codec.numN l.length ++ rgsT l) ∧ s.t 4 = .ptr 0 0 ∧ s.t 5 = .own 0 4 (encL Rg.c (l.take k)) ∧ s.t 6 = .d (.int .i64 ((l.length - k : Nat) : Int)) ∧ s.n = 78 ∧ s.m = ⟨[some (103, [bs (rgsT (l.drop k)), .d (.bool false)])], [some ⟨39, 4, (l.take k).length⟩]⟩ ∧ k ≤ l.length ∧ n = l.length - k) l.length ?_ ?_)
  · exact ⟨0, rfl, rfl, rfl, rfl, rfl, rfl, Nat.zero_le _, rfl⟩
  rintro n ⟨t, nn, m⟩ ⟨k, h0, h4, h5, h6, hn, hm, hk, hnk⟩ - -
  simp only at h0 h4 h5 h6 hn hm
  subst hn hm
  by_cases hlt : (0 : Int) < ((l.length - k : Nat) : Int)
  · have hlt' := eq_true hlt
    have hw : IntKind.i64.wrap (((l.length - k : Nat) : Int) - 1) = ((l.length - (k + 1) : Nat) : Int) := by rw [IntWalk.i64_in _ (by omega)]; omega
    obtain ⟨x, hx⟩ : ∃ x, l[k]? = some x := ⟨_, List.getElem?_eq_getElem (by omega)⟩
    have hr : x.right = true := List.all_eq_true.1 hall x (List.mem_of_getElem? hx)
    unfold Rg.right at hr
    simp only [Bool.and_eq_true, decide_eq_true_eq] at hr
    obtain ⟨⟨⟨⟨⟨⟨r1, r2⟩, r3⟩, r4⟩, r5⟩, r6⟩, -⟩ := hr
    have hid : ((x.id.toNat : Nat) : Int) = x.id := by omega
    have hgen : ((x.gen.toNat : Nat) : Int) = x.gen := by omega
    have hd := rgsT_drop hx
    have hrl : (rgsT (l.drop (k + 1))).length ≤ 1000000 := by
      have hda : (l.drop (k + 1)).all Rg.right = true := List.all_eq_true.2 fun y hy => List.all_eq_true.1 hall y (List.mem_of_mem_drop hy)
      have := rgsT_len _ hda
      rw [List.length_drop] at this
      omega
    have htx : (txT x.t).length ≤ 130 := by have := Codec.numN_len10 (n := x.t.length) (by omega); unfold txT; rw [List.length_append]; omega
    have htl : (List.take k l).length ≤ 255 := by rw [List.length_take]; omega
    rw [hd]
    repeat' (first
      | (with_reducible (first
       | refine PW.seq fun K1 hK1 => ?_ | refine PW.region fun K2 hK2 => ?_ | (refine hK3 _ ?_; clear hK3) | (refine opsP_nil ?_; refine hK2 _ ?_; clear hK2) | refine litX_old ?_ | refine litC_data ?_ | (refine Exists.intro _ (Exists.intro _ (And.intro rfl (And.intro rfl (And.intro ?_ ?_)))); focus omega) | (refine hK1 _ ?_; clear hK1) | refine nilC_intro (fun hz => ?_) ?_
       | refine PW.block ?_ | refine PW.skip ?_ | refine PW.exit ?_ | refine PW.ret ?_ | (refine hX1 ?_; clear hX1 hY1; try simp only [hb]) | (refine hY1 ?_; clear hX1 hY1; try simp only [hb]) | exact co_refl _ | exact co_own _ _ _ | exact co_nilsB | exact co_nilsL _ _))
      | ((first | (with_reducible refine wantB_intro (fun hb => ?_) (fun hb => ?_)) | (with_reducible refine condB_intro (fun hb => ?_) (fun hb => ?_))) <;> ((try (have hp := hb; simp only [PmH, beq_iff_eq, beq_eq_false_iff_ne, ne_eq] at hp)); try simp only [hb, Bool.not_true, Bool.not_false]))
      | ((with_reducible refine cC_recv (cs := ?_) ?_ ?_ ?_ ?_ (pnumberOk x.id.toNat (Codec.numN x.gen.toNat ++ (txT x.f ++ (txT x.t ++ rgsT (l.drop (k + 1))))) false ?_) (fun _ => ?_)); rotate_left 1; (focus (first | exact rfl | (simp only [Ua, Ub]; rfl))); (focus ((repeat' (first | refine .cons ?_ ?_ | exact .nil | exact .d _ | exact .own _ _ _ | exact .nl | exact .nilsB | exact .nilsL _ _ | exact .nils _ | exact .cp _ | refine .agg ?_ | refine .fn ?_ | refine .rf _ ?_)) <;> (simp only [purAs, purA, Vf, Bool.and_self, h0, h4, h5, h6, hlt', hw, hid, hgen]; done))); (focus ((repeat' (first | refine .cons ?_ ?_ | exact .nil | exact .d _ | exact .own _ _ _ | exact .nl | exact .nilsB | exact .nilsL _ _ | exact .nils _ | exact .cp _ | refine .agg ?_ | refine .fn ?_ | refine .rf _ ?_)) <;> (simp only [purAs, purA, Vf, Bool.and_self, h0, h4, h5, h6, hlt', hw, hid, hgen]; done))); (focus (simp only [purAs, purA, Vf, Bool.and_self, h0, h4, h5, h6, hlt', hw, hid, hgen]; done)))
      | ((with_reducible refine cC_recv (cs := ?_) ?_ ?_ ?_ ?_ (pnumberOk x.gen.toNat (txT x.f ++ (txT x.t ++ rgsT (l.drop (k + 1)))) false ?_) (fun _ => ?_)); rotate_left 1; (focus (first | exact rfl | (simp only [Ua, Ub]; rfl))); (focus ((repeat' (first | refine .cons ?_ ?_ | exact .nil | exact .d _ | exact .own _ _ _ | exact .nl | exact .nilsB | exact .nilsL _ _ | exact .nils _ | exact .cp _ | refine .agg ?_ | refine .fn ?_ | refine .rf _ ?_)) <;> (simp only [purAs, purA, Vf, Bool.and_self, h0, h4, h5, h6, hlt', hw, hid, hgen]; done))); (focus ((repeat' (first | refine .cons ?_ ?_ | exact .nil | exact .d _ | exact .own _ _ _ | exact .nl | exact .nilsB | exact .nilsL _ _ | exact .nils _ | exact .cp _ | refine .agg ?_ | refine .fn ?_ | refine .rf _ ?_)) <;> (simp only [purAs, purA, Vf, Bool.and_self, h0, h4, h5, h6, hlt', hw, hid, hgen]; done))); (focus (simp only [purAs, purA, Vf, Bool.and_self, h0, h4, h5, h6, hlt', hw, hid, hgen]; done)))
      | ((with_reducible refine cC_recv (cs := ?_) ?_ ?_ ?_ ?_ (ptextOk x.f (txT x.t ++ rgsT (l.drop (k + 1))) false ?_ ?_) (fun _ => ?_)); rotate_left 1; (focus (first | exact rfl | (simp only [Ua, Ub]; rfl))); (focus ((repeat' (first | refine .cons ?_ ?_ | exact .nil | exact .d _ | exact .own _ _ _ | exact .nl | exact .nilsB | exact .nilsL _ _ | exact .nils _ | exact .cp _ | refine .agg ?_ | refine .fn ?_ | refine .rf _ ?_)) <;> (simp only [purAs, purA, Vf, Bool.and_self, h0, h4, h5, h6, hlt', hw, hid, hgen]; done))); (focus ((repeat' (first | refine .cons ?_ ?_ | exact .nil | exact .d _ | exact .own _ _ _ | exact .nl | exact .nilsB | exact .nilsL _ _ | exact .nils _ | exact .cp _ | refine .agg ?_ | refine .fn ?_ | refine .rf _ ?_)) <;> (simp only [purAs, purA, Vf, Bool.and_self, h0, h4, h5, h6, hlt', hw, hid, hgen]; done))); (focus (simp only [purAs, purA, Vf, Bool.and_self, h0, h4, h5, h6, hlt', hw, hid, hgen]; done)))
      | ((with_reducible refine cC_recv (cs := ?_) ?_ ?_ ?_ ?_ (ptextOk x.t (rgsT (l.drop (k + 1))) false ?_ ?_) (fun _ => ?_)); rotate_left 1; (focus (first | exact rfl | (simp only [Ua, Ub]; rfl))); (focus ((repeat' (first | refine .cons ?_ ?_ | exact .nil | exact .d _ | exact .own _ _ _ | exact .nl | exact .nilsB | exact .nilsL _ _ | exact .nils _ | exact .cp _ | refine .agg ?_ | refine .fn ?_ | refine .rf _ ?_)) <;> (simp only [purAs, purA, Vf, Bool.and_self, h0, h4, h5, h6, hlt', hw, hid, hgen]; done))); (focus ((repeat' (first | refine .cons ?_ ?_ | exact .nil | exact .d _ | exact .own _ _ _ | exact .nl | exact .nilsB | exact .nilsL _ _ | exact .nils _ | exact .cp _ | refine .agg ?_ | refine .fn ?_ | refine .rf _ ?_)) <;> (simp only [purAs, purA, Vf, Bool.and_self, h0, h4, h5, h6, hlt', hw, hid, hgen]; done))); (focus (simp only [purAs, purA, Vf, Bool.and_self, h0, h4, h5, h6, hlt', hw, hid, hgen]; done)))
      | ((with_reducible refine And.intro ?_ ?_); (focus (first | omega | (simp; done) | assumption)))
      | (simp only [thenP, blockP, Nat.reduceEqDiff, ↓reduceIte]; (try ((repeat (fail_if_success (with_reducible refine hK1 _ ?_)); clear hK1); (with_reducible refine hK1 _ ?_); clear hK1)))
      | (with_reducible omega)
      | (assumption)
      | ((first | ((with_reducible refine opsP_cons fun K3 hK3 => ?_); simp only [wantP, opP, valP, Uy, U0, Ur, Us, List.mapM_cons, List.mapM_nil, Uw, Ux]) | (with_reducible refine PW.condM fun X1 Y1 hX1 hY1 => ?_) | skip); simp (disch := omega) only [wantP, wantB_tt, wantB_ff, wantB_tf, wantB_ft, opP, valP, St.eval, St.put, upd_app, iniT_app, avOf, avOf1, nom, cellsA, AV.okv, loadA, lenP, binP, intsP, intP, strP, eqP, nilP, convP, unP, builtinP, appP, srcA, srcTy, bsz, U0, U1, dvEqC, eqAll, srcAll, srcOk, appB, cellsV, maplenP, isMapA, isBsl, viewA, U2, U3, U4, U5, U6, slA, putCells, fillA, buildA, elA, dv1, U7, U8, U9, Ua, Ub, List.getElem?_nil, Uc, Ud, Ue, Uf, Ug, Uh, Ui, Uj, Uk, Ul, Um, Un, Uo, Up, Uq, Ur, Us, Ut, Uu, Uv, List.mapM_cons, List.mapM_nil, Uw, Ux, Uy, Uz, V0, V1, V2, V3, V4, V5, Option.bind_eq_bind, Option.pure_def, V6, V7, V8, V9, Va, Vb, Vc, Vd, Ve, Vt, Int.cast_ofNat_Int, ite_same, UU2, UU3, UU4, UU7, UU8, Vq, UU9, UUa, Vr, Vs, PmL, simprocAttr, PmT, h0, h4, h5, h6, hlt', hw, hid, hgen, retQ, resP, tupA, fg, fgs, condP, condB_t, condB_f]; try (with_reducible (first | exact co_refl _ | exact co_own _ _ _ | exact co_nilsB | exact co_nilsL _ _))))
    have ht : l.take (k + 1) = l.take k ++ [x] := by rw [List.take_add_one, hx]; rfl
    refine ⟨l.length - (k + 1), by omega, k + 1, ?_, ?_, ?_, ?_, ?_, ?_, by omega, rfl⟩
    all_goals (simp only [St.cut, Mem.cut, fg, fgs, upd_app, Nat.reduceEqDiff, ↓reduceIte, List.take_nil, List.map_nil, List.take_succ_cons, List.take_zero, List.map_cons, Option.map_some, Option.map_none, Nat.reduceLT, Nat.zero_lt_one, Nat.reduceAdd, List.length_append, List.length_cons, List.length_nil, List.append_assoc, Nat.add_assoc, Int.natCast_add, Int.cast_ofNat_Int, nom, h0, h4, h5, h6, hw, ht, encL_snoc, Rg.c]; try rfl)
  · have hlt' := eq_false hlt
    obtain rfl : k = l.length := by omega
    rw [List.take_length] at h5 ⊢
    rw [List.drop_length]
    have hbt : bytesT l = Codec.numN l.length ++ rgsT l := rfl
    repeat' (first
      | (with_reducible (first
       | refine PW.seq fun K1 hK1 => ?_ | refine PW.region fun K2 hK2 => ?_ | (refine hK3 _ ?_; clear hK3) | (refine opsP_nil ?_; refine hK2 _ ?_; clear hK2) | refine litX_old ?_ | refine litC_data ?_ | (refine Exists.intro _ (Exists.intro _ (And.intro rfl (And.intro rfl (And.intro ?_ ?_)))); focus omega) | (refine hK1 _ ?_; clear hK1) | refine nilC_intro (fun hz => ?_) ?_
       | refine PW.block ?_ | refine PW.skip ?_ | refine PW.exit ?_ | refine PW.ret ?_ | (refine hX1 ?_; clear hX1 hY1; try simp only [hb]) | (refine hY1 ?_; clear hX1 hY1; try simp only [hb]) | exact co_refl _ | exact co_own _ _ _ | exact co_nilsB | exact co_nilsL _ _))
      | ((first | (with_reducible refine wantB_intro (fun hb => ?_) (fun hb => ?_)) | (with_reducible refine condB_intro (fun hb => ?_) (fun hb => ?_))) <;> ((try (have hp := hb; simp only [PmH, beq_iff_eq, beq_eq_false_iff_ne, ne_eq] at hp)); try simp only [hb, Bool.not_true, Bool.not_false]))
      | ((with_reducible refine cC_pure ?_ (pBytesOk l h) (fun _ => ?_)); (focus ((repeat' constructor) <;> (simp only [purAs, purA, Vf, Bool.and_self, h0, h4, h5, h6, hlt', hbt]; done))))
      | ((with_reducible refine cC_pure ?_ (pEqual ?_ ?_) (fun _ => ?_)); (focus ((repeat' (first | refine .cons ?_ ?_ | exact .nil | exact .d _ | exact .own _ _ _ | exact .nl | exact .nilsB | exact .nilsL _ _ | exact .nils _ | exact .cp _ | refine .agg ?_ | refine .fn ?_ | refine .rf _ ?_)) <;> (simp only [purAs, purA, Vf, Bool.and_self, h0, h4, h5, h6, hlt', hbt]; done))))
      | ((with_reducible refine And.intro ?_ ?_); (focus (first | omega | (simp; done) | assumption)))
      | (simp only [thenP, blockP, Nat.reduceEqDiff, ↓reduceIte]; (try ((repeat (fail_if_success (with_reducible refine hK1 _ ?_)); clear hK1); (with_reducible refine hK1 _ ?_); clear hK1)))
      | (with_reducible omega)
      | (assumption)
      | ((first | ((with_reducible refine opsP_cons fun K3 hK3 => ?_); simp only [wantP, opP, valP, Uy, U0, Ur, Us, List.mapM_cons, List.mapM_nil, Uw, Ux]) | (with_reducible refine PW.condM fun X1 Y1 hX1 hY1 => ?_) | skip); simp (disch := omega) only [wantP, wantB_tt, wantB_ff, wantB_tf, wantB_ft, opP, valP, St.eval, St.put, upd_app, iniT_app, avOf, avOf1, nom, cellsA, AV.okv, loadA, lenP, binP, intsP, intP, strP, eqP, nilP, convP, unP, builtinP, appP, srcA, srcTy, bsz, U0, U1, dvEqC, eqAll, srcAll, srcOk, appB, cellsV, maplenP, isMapA, isBsl, viewA, U2, U3, U4, U5, U6, slA, putCells, fillA, buildA, elA, dv1, U7, U8, U9, Ua, Ub, List.getElem?_nil, Uc, Ud, Ue, Uf, Ug, Uh, Ui, Uj, Uk, Ul, Um, Un, Uo, Up, Uq, Ur, Us, Ut, Uu, Uv, List.mapM_cons, List.mapM_nil, Uw, Ux, Uy, Uz, V0, V1, V2, V3, V4, V5, Option.bind_eq_bind, Option.pure_def, V6, V7, V8, V9, Va, Vb, Vc, Vd, Ve, Vt, Int.cast_ofNat_Int, ite_same, UU2, UU3, UU4, UU7, UU8, Vq, UU9, UUa, Vr, Vs, PmL, simprocAttr, PmT, h0, h4, h5, h6, hlt', hbt, retQ, resP, tupA, fg, fgs, condP, condB_t, condB_f]; try (with_reducible (first | exact co_refl _ | exact co_own _ _ _ | exact co_nilsB | exact co_nilsL _ _))))
    intro G a w hs
    obtain ⟨tm, df⟩ := a
    obtain rfl : df = [] := hs.df
    obtain ⟨x0, x1, x2, x3, x4, x5, x6, x7, x8, x9, x10, x11, x12, x13, x14, x15, x16, x17, x18, x19, x20, x21, x22, x23, x24, x25, x26, x27, x28, x29, x30, x31, x32, x33, x34, x35, x36, x37, x38, x39, x40, x41, x42, x43, x44, x45, x46, x47, x48, x49, x50, x51, x52, x53, x54, x55, x56, x57, x58, x59, x60, x61, x62, x63, x64, x65, x66, x67, x68, x69, x70, x71, x72, x73, x74, x75, x76, x77, rfl⟩ := arr78 tm hs.n
    have e5 : RelA G ⟨_, [some ⟨39, 4, l.length⟩]⟩ w (t 5) x5 := hs.t 5
    rw [h5] at e5
    have e59 : RelA G ⟨_, [some ⟨39, 4, l.length⟩]⟩ w (.own 0 4 (encL Rg.c l)) x59 := hs.t 59
    have e60 : RelA G _ w (.d (.int .i64 l.length)) x60 := hs.t 60
    have e61 : RelA G _ w (.d (.int .i64 0)) x61 := hs.t 61
    obtain rfl := e60.int.1
    obtain rfl := e61.int.1
    obtain ⟨-, q1, q2⟩ := hs.mem.row 0 ⟨39, 4, l.length⟩ rfl
    have E5 := e5
    unfold RelA at e5 e59
    obtain ⟨-, -, v5⟩ := e5
    obtain ⟨-, d59, v59⟩ := e59
    have v5 := (v5 _ rfl).2 (by rw [encL_len])
    have v59 := (v59 _ rfl).2 (by rw [encL_len])
    rw [encL_len] at v5 v59
    obtain ⟨ao, hao⟩ : ∃ ao, (G.ri 0).map (fun g => (⟨g, 0, none⟩ : Addr)) = ao := ⟨_, rfl⟩
    obtain ⟨cap, hcap⟩ : ∃ cap, G.rc 0 = cap := ⟨_, rfl⟩
    rw [hao, hcap] at v5 v59
    subst v5 v59
    have hcell : ∀ (k : Nat) (x : Rg), l[k]? = some x → ∃ g cur fo n1 fc to n2 tc, ao = some ⟨g, 0, none⟩ ∧ g < w.heap.size ∧ w.heap[g]? = some (.cells cur 39 (0, 0)) ∧ k * 4 + 4 ≤ cur.size ∧ w.cell? ⟨g, k * 4, none⟩ = some (.int .i64 x.id) ∧ w.cell? ⟨g, k * 4 + 1, none⟩ = some (.slice fo n1 fc) ∧ w.cell? ⟨g, k * 4 + 2, none⟩ = some (.slice to n2 tc) ∧ w.cell? ⟨g, k * 4 + 3, none⟩ = some (.int .i64 x.gen) := fun k x hx => by
      have hk := (List.getElem?_eq_some_iff.1 hx).1
      unfold RelD at d59
      obtain ⟨ao', cap', e, -, -, -, d2⟩ := d59
      simp only [Value.slice.injEq] at e
      obtain ⟨rfl, -, rfl⟩ := e
      cases hg : G.ri 0 with
      | none => have := (q1 hg).1; simp only at this; omega
      | some g =>
        rw [hg] at hao
        obtain ⟨-, d3⟩ := d2 _ hao.symm (by rw [encL_len]; omega)
        obtain ⟨⟨cur, c1, c2⟩, c3, -, -⟩ := q2 g hg
        simp only at c1 c2 c3
        have d4 := (d3.at_ (i := k) (x := x.c) (by rw [encL_get, hx]; rfl)).2
        simp only [Rg.c, RelC, Nat.zero_add, and_true] at d4
        obtain ⟨⟨u0, c0, -, r0⟩, ⟨u1, c1', -, r1⟩, ⟨u2, c2', -, r2⟩, ⟨u3, c3', -, r3⟩⟩ := d4
        unfold RelD at r0 r1 r2 r3
        obtain ⟨rfl, -⟩ := r0
        obtain ⟨fo, fc, rfl, -⟩ := r1
        obtain ⟨to, tc, rfl, -⟩ := r2
        obtain ⟨rfl, -⟩ := r3
        exact ⟨g, cur, fo, _, fc, to, _, tc, hao.symm, (Array.getElem?_eq_some_iff.1 c1).1, c1, by omega, c0, c1', c2', c3'⟩
    go_loopw [61] (fun i wr => ∃ k : Nat, k ≤ l.length ∧ i = .int .i64 k ∧ Hid (Below w.heap.size w wr)) (fun i _ => l.length - (intOf i).toNat)
    case atStart => exact ⟨0, Nat.zero_le _, rfl, Lib.hid (.refl _ _)⟩
    case round =>
      obtain ⟨k, hk, rfl, hbel⟩ := hrel
      by_cases hlt : k < l.length
      · obtain ⟨x, hx⟩ : ∃ x, l[k]? = some x := ⟨_, List.getElem?_eq_getElem hlt⟩
        obtain ⟨g, cur, fo, n1, fc, to, n2, tc, rfl, hg, hrow, hsz, c0', c1', c2', c3'⟩ := hcell k x hx
        have c0 := (hbel.out.cell (p := ⟨g, k * 4, none⟩) hg).trans c0'
        have c1 := (hbel.out.cell (p := ⟨g, k * 4 + 1, none⟩) hg).trans c1'
        have c2 := (hbel.out.cell (p := ⟨g, k * 4 + 2, none⟩) hg).trans c2'
        have c3 := (hbel.out.cell (p := ⟨g, k * 4 + 3, none⟩) hg).trans c3'
        have hl0 : (k : Int) < l.length := by omega
        have hl1 : 0 ≤ (k : Int) := by omega
        have hw1 := IntWalk.i64_in ((k : Int) + 1) (by omega)
        obtain ⟨W, hW⟩ : ∃ W, wr.alloc (.cells #[.int .i64 x.id, .slice fo n1 fc, .slice to n2 tc, .int .i64 x.gen] 39) = W := ⟨_, rfl⟩
        have hbW : Below w.heap.size w W := hW ▸ hbel.out.alloc hbel.out.size _
        have HBW := Lib.hid hbW
        have d0 := (hbW.cell (p := ⟨g, k * 4, none⟩) hg).trans c0'
        have d1 := (hbW.cell (p := ⟨g, k * 4 + 1, none⟩) hg).trans c1'
        have d2 := (hbW.cell (p := ⟨g, k * 4 + 2, none⟩) hg).trans c2'
        have d3 := (hbW.cell (p := ⟨g, k * 4 + 3, none⟩) hg).trans c3'
        have hbox : W.heap[wr.heap.size]? = some (.cells #[.int .i64 x.id, .slice fo n1 fc, .slice to n2 tc, .int .i64 x.gen] 39 (0, 0)) := by rw [← hW]; exact heap_alloc_new wr _
        have b0 : W.cell? ⟨wr.heap.size, 0, none⟩ = some (.int .i64 x.id) := by rw [cell_of_row W _ 0 _ _ _ hbox]; rfl
        have b1 : W.cell? ⟨wr.heap.size, 1, none⟩ = some (.slice fo n1 fc) := by rw [cell_of_row W _ 1 _ _ _ hbox]; rfl
        have b2 : W.cell? ⟨wr.heap.size, 2, none⟩ = some (.slice to n2 tc) := by rw [cell_of_row W _ 2 _ _ _ hbox]; rfl
        have b3 : W.cell? ⟨wr.heap.size, 3, none⟩ = some (.int .i64 x.gen) := by rw [cell_of_row W _ 3 _ _ _ hbox]; rfl
        have hrow' := (hbW.block g hg).trans hrow
        have f0 := frozen_of_row W g (k * 4) _ _ hrow'
        have f1 := frozen_of_row W g (k * 4 + 1) _ _ hrow'
        have f2 := frozen_of_row W g (k * 4 + 2) _ _ hrow'
        have f3 := frozen_of_row W g (k * 4 + 3) _ _ hrow'
        have s0 := setCell_same d0
        have s1 := setCell_same d1
        have s2 := setCell_same d2
        have s3 := setCell_same d3
        clear c0' c1' c2' c3' hrow' hbW hbox
        go_wp2_with fail
        exact ⟨⟨k + 1, by omega, by go_num, HBW⟩, by simp [intOf]; omega⟩
      · obtain rfl : k = l.length := by omega
        clear hcell
        go_wp2_with fail
        refine ⟨G, ⟨upd (fun _ => .junk) 5 (.own 0 4 (encL Rg.c l)), 78, ⟨[some (103, [bs (rgsT []), .d (.bool false)])], [some ⟨39, 4, l.length⟩]⟩⟩, ⟨hs.mem.below hbel.out, fun j => ?_, rfl, rfl⟩, ev_below hbel.out, ?_⟩
        · by_cases hj : j = 5
          · subst hj
            exact E5.mono (ev_below hbel.out)
          · show RelA _ _ _ (upd (fun _ => AV.junk) 5 (.own 0 4 (encL Rg.c l)) j) _
            rw [upd_ne _ _ hj]
            unfold RelA
            trivial
        · clear hs
          repeat' (first
            | (with_reducible (first
             | refine PW.seq fun K1 hK1 => ?_ | refine PW.region fun K2 hK2 => ?_ | (refine hK3 _ ?_; clear hK3) | (refine opsP_nil ?_; refine hK2 _ ?_; clear hK2) | refine litX_old ?_ | refine litC_data ?_ | (refine Exists.intro _ (Exists.intro _ (And.intro rfl (And.intro rfl (And.intro ?_ ?_)))); focus omega) | (refine hK1 _ ?_; clear hK1) | refine nilC_intro (fun hz => ?_) ?_
             | refine PW.block ?_ | refine PW.skip ?_ | refine PW.exit ?_ | refine PW.ret ?_ | (refine hX1 ?_; clear hX1 hY1; try simp only [hb]) | (refine hY1 ?_; clear hX1 hY1; try simp only [hb]) | exact co_refl _ | exact co_own _ _ _ | exact co_nilsB | exact co_nilsL _ _))
            | ((first | (with_reducible refine wantB_intro (fun hb => ?_) (fun hb => ?_)) | (with_reducible refine condB_intro (fun hb => ?_) (fun hb => ?_))) <;> ((try (have hp := hb; simp only [PmH, beq_iff_eq, beq_eq_false_iff_ne, ne_eq] at hp)); try simp only [hb, Bool.not_true, Bool.not_false]))
            | ((with_reducible refine And.intro ?_ ?_); (focus (first | omega | (simp; done) | assumption)))
            | (simp only [thenP, blockP, Nat.reduceEqDiff, ↓reduceIte]; (try ((repeat (fail_if_success (with_reducible refine hK1 _ ?_)); clear hK1); (with_reducible refine hK1 _ ?_); clear hK1)))
            | (with_reducible omega)
            | (assumption)
            | ((first | ((with_reducible refine opsP_cons fun K3 hK3 => ?_); simp only [wantP, opP, valP, Uy, U0, Ur, Us, List.mapM_cons, List.mapM_nil, Uw, Ux]) | (with_reducible refine PW.condM fun X1 Y1 hX1 hY1 => ?_) | skip); simp (disch := omega) only [wantP, wantB_tt, wantB_ff, wantB_tf, wantB_ft, opP, valP, St.eval, St.put, upd_app, iniT_app, avOf, avOf1, nom, cellsA, AV.okv, loadA, lenP, binP, intsP, intP, strP, eqP, nilP, convP, unP, builtinP, appP, srcA, srcTy, bsz, U0, U1, dvEqC, eqAll, srcAll, srcOk, appB, cellsV, maplenP, isMapA, isBsl, viewA, U2, U3, U4, U5, U6, slA, putCells, fillA, buildA, elA, dv1, U7, U8, U9, Ua, Ub, List.getElem?_nil, Uc, Ud, Ue, Uf, Ug, Uh, Ui, Uj, Uk, Ul, Um, Un, Uo, Up, Uq, Ur, Us, Ut, Uu, Uv, List.mapM_cons, List.mapM_nil, Uw, Ux, Uy, Uz, V0, V1, V2, V3, V4, V5, Option.bind_eq_bind, Option.pure_def, V6, V7, V8, V9, Va, Vb, Vc, Vd, Ve, Vt, Int.cast_ofNat_Int, ite_same, UU2, UU3, UU4, UU7, UU8, Vq, UU9, UUa, Vr, Vs, PmL, simprocAttr, PmT, retQ, resP, tupA, fg, fgs, condP, condB_t, condB_f]; try (with_reducible (first | exact co_refl _ | exact co_own _ _ _ | exact co_nilsB | exact co_nilsL _ _))))
end PM
end Go.Proofs.Ytbeniogffhihlaa
