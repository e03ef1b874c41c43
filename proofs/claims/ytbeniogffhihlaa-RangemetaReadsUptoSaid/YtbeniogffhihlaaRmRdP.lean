/- rangemeta: the reference's Read in the abstract. -/
import Derived.Test.YtbeniogffhihlaaRmRdR
set_option linter.unusedVariables false
set_option linter.unusedSimpArgs false
namespace Go.Proofs.Ytbeniogffhihlaa
open Go.RowKit
set_option maxRecDepth 100000
namespace PM
theorem byteR_drop {B : List Int} {a : Nat} {c : Int} {r : List Int} (h : B.drop a = c :: r) : byteR B a false = (c, a + 1, false) ∧ B.drop (a + 1) = r := by
  have hl : a < B.length := by
    have := congrArg List.length h
    rw [List.length_drop, List.length_cons] at this
    omega
  have hd := List.drop_eq_getElem_cons hl
  rw [h] at hd
  injection hd with h1 h2
  refine ⟨?_, h2.symm⟩
  unfold byteR
  rw [if_neg (by simp; omega)]
  simp [List.getD, hl, h1]
theorem varGo_num : ∀ (f n k a : Nat) (v sc : Int) (rest B : List Int), B.drop a = Codec.numN n ++ rest → (0 < k → 0 < n) → 0 < f → n < 128 ^ f → v + n * sc ≤ 9007199254740991 → varGo B f k a false v sc = (v + n * sc, a + (Codec.numN n).length, false)
  | 0, _, _, _, _, _, _, _, _, _, h, _, _ => absurd h (by omega)
  | f + 1, n, k, a, v, sc, rest, B, hd, hk, _, hn, hm => by
    by_cases h : n < 128
    · rw [Codec.numN_lo h] at hd ⊢
      obtain ⟨h1, -⟩ := byteR_drop hd
      unfold varGo
      rw [h1]
      have e : (n : Int) % 128 = n := by omega
      simp only [e]
      rw [if_pos (by omega)]
      have h2 : (decide (0 < k) && decide ((n : Int) = 0)) = false := by
        by_cases h0 : 0 < k
        · have := hk h0
          rw [decide_eq_false (show ¬ (n : Int) = 0 by omega), Bool.and_false]
        · rw [decide_eq_false h0, Bool.false_and]
      rw [h2, decide_eq_false (by omega)]
      rfl
    · rw [Codec.numN_hi (by omega)] at hd ⊢
      obtain ⟨h1, h2⟩ := byteR_drop hd
      have hp : (128 : Nat) ^ (f + 1) = 128 ^ f * 128 := Nat.pow_succ ..
      have hf : 0 < f := by
        rcases Nat.eq_zero_or_pos f with rfl | h0
        · simp at hn; omega
        · exact h0
      have e : (128 + (n : Int) % 128) % 128 = (n : Int) % 128 := by omega
      have e2 : v + (n : Int) % 128 * sc + ((n / 128 : Nat) : Int) * (sc * 128) = v + n * sc := by
        have : (n : Int) = (n : Int) % 128 + 128 * ((n / 128 : Nat) : Int) := by omega
        rw [show v + (n : Int) * sc = v + ((n : Int) % 128 + 128 * ((n / 128 : Nat) : Int)) * sc by rw [← this]]
        rw [Int.add_mul, Int.add_assoc, Int.mul_comm sc 128, ← Int.mul_assoc, Int.mul_comm 128 ((n / 128 : Nat) : Int)]
      have ih := varGo_num f (n / 128) (k + 1) (a + 1) (v + (n : Int) % 128 * sc) (sc * 128) rest B h2 (fun _ => by omega) hf (by omega) (by omega)
      unfold varGo
      rw [h1]
      simp only [e]
      rw [if_neg (by omega), ih, e2, List.length_cons]
      refine Prod.ext rfl (Prod.ext ?_ rfl)
      simp only
      omega
theorem varR_num {B rest : List Int} {n a : Nat} (hd : B.drop a = Codec.numN n ++ rest) (hn : n ≤ 9007199254740991) : varR B a false = ((n : Int), a + (Codec.numN n).length, false) := by
  have e : (128 : Nat) ^ 8 = 72057594037927936 := by decide
  have := varGo_num 8 n 0 a 0 1 rest B hd (fun h => absurd h (by omega)) (by omega) (by omega) (by omega)
  unfold varR
  rw [this]
  simp
theorem drop_app {B x y : List Int} {a : Nat} (h : B.drop a = x ++ y) : B.drop (a + x.length) = y := by
  rw [← List.drop_drop, h, List.drop_left]
theorem drop_len {B x y : List Int} {a : Nat} (h : B.drop a = x ++ y) (ha : a ≤ B.length) : a + x.length ≤ B.length := by
  have := congrArg List.length h
  rw [List.length_drop, List.length_append] at this
  omega
theorem textR_txt {B rest f : List Int} {a : Nat} (hd : B.drop a = txT f ++ rest) (hf : f.length ≤ 9007199254740991) (ha : a ≤ B.length) : textR B a false = (f, a + (txT f).length, false) := by
  have hd' := hd
  unfold txT at hd'
  rw [List.append_assoc] at hd'
  have h1 := varR_num hd' hf
  have h2 := drop_app hd'
  have h3 := drop_len hd ha
  have h4 : (txT f).length = (Codec.numN f.length).length + f.length := by unfold txT; rw [List.length_append]
  unfold textR
  rw [h1]
  simp only
  rw [if_neg (by simp; omega), h2, Int.toNat_natCast, List.take_left, h4]
  refine Prod.ext rfl (Prod.ext ?_ rfl)
  simp only
  omega
theorem varR_ex {B rest : List Int} {n a : Nat} (hd : B.drop a = Codec.numN n ++ rest) (hn : n ≤ 9007199254740991) (ha : a ≤ B.length) :
    ∃ a1, a1 ≤ B.length ∧ B.drop a1 = rest ∧ PFun Try.prog 69 [.ptr 0 0] (rdM9 B a false) (.d (.int .i64 n)) (rdM9 B a1 false) := by
  refine ⟨_, drop_len hd ha, drop_app hd, ?_⟩
  have h := pRVar9 B a false ha
  rwa [varR_num hd hn] at h
theorem textR_ex {B rest f : List Int} {a : Nat} (hd : B.drop a = txT f ++ rest) (hf : f.length ≤ 9007199254740991) (ha : a ≤ B.length) (hB : B.length ≤ 100000000) :
    ∃ a1, a1 ≤ B.length ∧ B.drop a1 = rest ∧ PFun Try.prog 70 [.ptr 0 0] (rdM9 B a false) (bs f) (rdM9 B a1 false) := by
  refine ⟨_, drop_len hd ha, drop_app hd, ?_⟩
  have h := pRText9 B a false ha hB
  rwa [textR_txt hd hf ha] at h
set_option maxHeartbeats 4000000 in
theorem pRReadOk (l : List Rg) (h : okL l = true) : Pure Try.prog 35 [bs (bytesT l)] (.tup [rl l, .d (.int .i64 0)]) := by
  have hRB := pRBytes l
  rw [h] at hRB
  simp only [↓reduceIte] at hRB
  have h' := h
  unfold okL at h'
  simp only [Bool.and_eq_true, decide_eq_true_eq] at h'
  obtain ⟨h255, hall⟩ := h'
  have hBl : (bytesT l).length ≤ 100000 := by
    have := rgsT_len l hall
    have := Codec.numN_len10 (n := l.length) (by omega)
    unfold bytesT
    rw [List.length_append]
    omega
  have hd0 : (bytesT l).drop 0 = Codec.numN l.length ++ rgsT l := rfl
  obtain ⟨B, hB⟩ : ∃ B, bytesT l = B := ⟨_, rfl⟩
  rw [hB] at hRB hBl hd0 ⊢
  clear hB
  refine pure_intro Try.func35 rfl rfl rfl 70 rfl (fun hh => ?_)
  obtain ⟨a0, ha0, hd1, hV0⟩ := varR_ex hd0 (by omega) (Nat.zero_le _)
  repeat' (first
    | (with_reducible (first
     | refine PW.seq fun K1 hK1 => ?_ | refine PW.region fun K2 hK2 => ?_ | (refine hK3 _ ?_; clear hK3) | (refine opsP_nil ?_; refine hK2 _ ?_; clear hK2) | refine litX_old ?_ | refine litC_data ?_ | (refine Exists.intro _ (Exists.intro _ (And.intro rfl (And.intro rfl (And.intro ?_ ?_)))); focus omega) | (refine hK1 _ ?_; clear hK1) | refine nilC_intro (fun hz => ?_) ?_
     | refine PW.block ?_ | refine PW.skip ?_ | refine PW.exit ?_ | refine PW.ret ?_ | (refine hX1 ?_; clear hX1 hY1; try simp only [hb]) | (refine hY1 ?_; clear hX1 hY1; try simp only [hb]) | exact co_refl _ | exact co_own _ _ _ | exact co_nilsB | exact co_nilsL _ _))
    | ((first | (with_reducible refine wantB_intro (fun hb => ?_) (fun hb => ?_)) | (with_reducible refine condB_intro (fun hb => ?_) (fun hb => ?_))) <;> ((try (have hp := hb; simp only [PmH, beq_iff_eq, beq_eq_false_iff_ne, ne_eq] at hp)); try simp only [hb, Bool.not_true, Bool.not_false]))
    | ((with_reducible refine cC_recv (cs := ?_) ?_ ?_ ?_ ?_ (hV0) (fun _ => ?_)); rotate_left 1; (focus (first | exact rfl | (simp only [Ua, Ub]; rfl))); (focus ((repeat' constructor); done)); (focus ((repeat' constructor); done)); (focus (simp only [purAs, purA, Vf, Bool.and_self]; done)))
    | ((with_reducible refine And.intro ?_ ?_); (focus (first | omega | (simp; done) | assumption)))
    | (simp only [thenP, blockP, Nat.reduceEqDiff, ↓reduceIte]; (try ((repeat (fail_if_success (with_reducible refine hK1 _ ?_)); clear hK1); (with_reducible refine hK1 _ ?_); clear hK1)))
    | (with_reducible omega)
    | (assumption)
    | ((first | ((with_reducible refine opsP_cons fun K3 hK3 => ?_); simp only [wantP, opP, valP, Uy, U0, Ur, Us, List.mapM_cons, List.mapM_nil, Uw, Ux]) | (with_reducible refine PW.condM fun X1 Y1 hX1 hY1 => ?_) | skip); simp (disch := omega) only [wantP, wantB_tt, wantB_ff, wantB_tf, wantB_ft, opP, valP, St.eval, St.put, upd_app, iniT_app, avOf, avOf1, nom, cellsA, AV.okv, loadA, lenP, binP, intsP, intP, strP, eqP, nilP, convP, unP, builtinP, appP, srcA, srcTy, bsz, U0, U1, dvEqC, eqAll, srcAll, srcOk, appB, cellsV, maplenP, isMapA, isBsl, viewA, U2, U3, U4, U5, U6, slA, putCells, fillA, buildA, elA, dv1, U7, U8, U9, Ua, Ub, List.getElem?_nil, Uc, Ud, Ue, Uf, Ug, Uh, Ui, Uj, Uk, Ul, Um, Un, Uo, Up, Uq, Ur, Us, Ut, Uu, Uv, List.mapM_cons, List.mapM_nil, Uw, Ux, Uy, Uz, V0, V1, V2, V3, V4, V5, Option.bind_eq_bind, Option.pure_def, V6, V7, V8, V9, Va, Vb, Vc, Vd, Ve, Vt, Int.cast_ofNat_Int, ite_same, UU2, UU3, UU4, UU7, UU8, Vq, UU9, UUa, Vr, Vs, PmL, simprocAttr, PmT, retQ, resP, tupA, fg, fgs, condP, condB_t, condB_f]; try (with_reducible (first | exact co_refl _ | exact co_own _ _ _ | exact co_nilsB | exact co_nilsL _ _))))
  (with_reducible refine PW.nil2ownL (bx := ?_) Rg.c 6 39 4 (by decide) ?_ ?_ ?_; rotate_left 1; (focus (simp only [upd_app, Nat.reduceEqDiff, ↓reduceIte])); (focus (exact rfl)))
  (with_reducible refine PW.loop (fun n s => ∃ k a : Nat, s.t 0 = bs B ∧ s.t 4 = .ptr 0 0 ∧ s.t 5 = .d (.int .i64 l.length) ∧ s.t 6 = .own 0 4 (encL Rg.c (l.take k)) ∧ s.t 7 = .d (.int .i64 k) ∧ s.n = 70 ∧ s.m = ⟨[some (108, [bs B, .d (.int .i64 a), .d (.bool false)])], [some ⟨39, 4, (l.take k).length⟩]⟩ ∧ k ≤ l.length ∧ n = l.length - k ∧ a ≤ B.length ∧ B.drop a = rgsT (l.drop k)) l.length ?_ ?_)
  · exact ⟨0, a0, rfl, rfl, rfl, rfl, rfl, rfl, rfl, Nat.zero_le _, rfl, ha0, hd1⟩
  rintro n ⟨t, nn, m⟩ ⟨k, a, h0, h4, h5, h6, h7, hn, hm, hk, hnk, ha, hd⟩ - -
  simp only at h0 h4 h5 h6 h7 hn hm
  subst hn hm
  by_cases hlt : (k : Int) < l.length
  · have hlt' := eq_true hlt
    have hle' := eq_true (show (k : Int) ≤ 255 by omega)
    have hw : IntKind.i64.wrap ((k : Int) + 1) = k + 1 := IntWalk.i64_in ((k : Int) + 1) (by omega)
    obtain ⟨x, hx⟩ : ∃ x, l[k]? = some x := ⟨_, List.getElem?_eq_getElem (by omega)⟩
    have hr : x.right = true := List.all_eq_true.1 hall x (List.mem_of_getElem? hx)
    unfold Rg.right at hr
    simp only [Bool.and_eq_true, decide_eq_true_eq] at hr
    obtain ⟨⟨⟨⟨⟨⟨r1, r2⟩, r3⟩, r4⟩, r5⟩, r6⟩, -⟩ := hr
    have hid : ((x.id.toNat : Nat) : Int) = x.id := by omega
    have hgen : ((x.gen.toNat : Nat) : Int) = x.gen := by omega
    rw [rgsT_drop hx] at hd
    obtain ⟨a1, ha1, hd1, hV1⟩ := varR_ex hd (by omega) ha
    obtain ⟨a2, ha2, hd2, hV2⟩ := varR_ex hd1 (by omega) ha1
    obtain ⟨a3, ha3, hd3, hT1⟩ := textR_ex hd2 (by omega) ha2 (by omega)
    obtain ⟨a4, ha4, hd4, hT2⟩ := textR_ex hd3 (by omega) ha3 (by omega)
    have htl : (List.take k l).length ≤ 255 := by rw [List.length_take]; omega
    repeat' (first
      | (with_reducible (first
       | refine PW.seq fun K1 hK1 => ?_ | refine PW.region fun K2 hK2 => ?_ | (refine hK3 _ ?_; clear hK3) | (refine opsP_nil ?_; refine hK2 _ ?_; clear hK2) | refine litX_old ?_ | refine litC_data ?_ | (refine Exists.intro _ (Exists.intro _ (And.intro rfl (And.intro rfl (And.intro ?_ ?_)))); focus omega) | (refine hK1 _ ?_; clear hK1) | refine nilC_intro (fun hz => ?_) ?_
       | refine PW.block ?_ | refine PW.skip ?_ | refine PW.exit ?_ | refine PW.ret ?_ | (refine hX1 ?_; clear hX1 hY1; try simp only [hb]) | (refine hY1 ?_; clear hX1 hY1; try simp only [hb]) | exact co_refl _ | exact co_own _ _ _ | exact co_nilsB | exact co_nilsL _ _))
      | ((first | (with_reducible refine wantB_intro (fun hb => ?_) (fun hb => ?_)) | (with_reducible refine condB_intro (fun hb => ?_) (fun hb => ?_))) <;> ((try (have hp := hb; simp only [PmH, beq_iff_eq, beq_eq_false_iff_ne, ne_eq] at hp)); try simp only [hb, Bool.not_true, Bool.not_false]))
      | ((with_reducible refine cC_recv (cs := ?_) ?_ ?_ ?_ ?_ (hV1) (fun _ => ?_)); rotate_left 1; (focus (first | exact rfl | (simp only [Ua, Ub]; rfl))); (focus ((repeat' constructor) <;> (simp only [purAs, purA, Vf, Bool.and_self, h0, h4, h5, h6, h7, hlt', hle', hw, hid, hgen]; done))); (focus ((repeat' constructor) <;> (simp only [purAs, purA, Vf, Bool.and_self, h0, h4, h5, h6, h7, hlt', hle', hw, hid, hgen]; done))); (focus (simp only [purAs, purA, Vf, Bool.and_self, h0, h4, h5, h6, h7, hlt', hle', hw, hid, hgen]; done)))
      | ((with_reducible refine cC_recv (cs := ?_) ?_ ?_ ?_ ?_ (hV2) (fun _ => ?_)); rotate_left 1; (focus (first | exact rfl | (simp only [Ua, Ub]; rfl))); (focus ((repeat' constructor) <;> (simp only [purAs, purA, Vf, Bool.and_self, h0, h4, h5, h6, h7, hlt', hle', hw, hid, hgen]; done))); (focus ((repeat' constructor) <;> (simp only [purAs, purA, Vf, Bool.and_self, h0, h4, h5, h6, h7, hlt', hle', hw, hid, hgen]; done))); (focus (simp only [purAs, purA, Vf, Bool.and_self, h0, h4, h5, h6, h7, hlt', hle', hw, hid, hgen]; done)))
      | ((with_reducible refine cC_recv (cs := ?_) ?_ ?_ ?_ ?_ (hT1) (fun _ => ?_)); rotate_left 1; (focus (first | exact rfl | (simp only [Ua, Ub]; rfl))); (focus ((repeat' constructor) <;> (simp only [purAs, purA, Vf, Bool.and_self, h0, h4, h5, h6, h7, hlt', hle', hw, hid, hgen]; done))); (focus ((repeat' constructor) <;> (simp only [purAs, purA, Vf, Bool.and_self, h0, h4, h5, h6, h7, hlt', hle', hw, hid, hgen]; done))); (focus (simp only [purAs, purA, Vf, Bool.and_self, h0, h4, h5, h6, h7, hlt', hle', hw, hid, hgen]; done)))
      | ((with_reducible refine cC_recv (cs := ?_) ?_ ?_ ?_ ?_ (hT2) (fun _ => ?_)); rotate_left 1; (focus (first | exact rfl | (simp only [Ua, Ub]; rfl))); (focus ((repeat' constructor) <;> (simp only [purAs, purA, Vf, Bool.and_self, h0, h4, h5, h6, h7, hlt', hle', hw, hid, hgen]; done))); (focus ((repeat' constructor) <;> (simp only [purAs, purA, Vf, Bool.and_self, h0, h4, h5, h6, h7, hlt', hle', hw, hid, hgen]; done))); (focus (simp only [purAs, purA, Vf, Bool.and_self, h0, h4, h5, h6, h7, hlt', hle', hw, hid, hgen]; done)))
      | ((with_reducible refine And.intro ?_ ?_); (focus (first | omega | (simp; done) | assumption)))
      | (simp only [thenP, blockP, Nat.reduceEqDiff, ↓reduceIte]; (try ((repeat (fail_if_success (with_reducible refine hK1 _ ?_)); clear hK1); (with_reducible refine hK1 _ ?_); clear hK1)))
      | (with_reducible omega)
      | (assumption)
      | ((first | ((with_reducible refine opsP_cons fun K3 hK3 => ?_); simp only [wantP, opP, valP, Uy, U0, Ur, Us, List.mapM_cons, List.mapM_nil, Uw, Ux]) | (with_reducible refine PW.condM fun X1 Y1 hX1 hY1 => ?_) | skip); simp (disch := omega) only [wantP, wantB_tt, wantB_ff, wantB_tf, wantB_ft, opP, valP, St.eval, St.put, upd_app, iniT_app, avOf, avOf1, nom, cellsA, AV.okv, loadA, lenP, binP, intsP, intP, strP, eqP, nilP, convP, unP, builtinP, appP, srcA, srcTy, bsz, U0, U1, dvEqC, eqAll, srcAll, srcOk, appB, cellsV, maplenP, isMapA, isBsl, viewA, U2, U3, U4, U5, U6, slA, putCells, fillA, buildA, elA, dv1, U7, U8, U9, Ua, Ub, List.getElem?_nil, Uc, Ud, Ue, Uf, Ug, Uh, Ui, Uj, Uk, Ul, Um, Un, Uo, Up, Uq, Ur, Us, Ut, Uu, Uv, List.mapM_cons, List.mapM_nil, Uw, Ux, Uy, Uz, V0, V1, V2, V3, V4, V5, Option.bind_eq_bind, Option.pure_def, V6, V7, V8, V9, Va, Vb, Vc, Vd, Ve, Vt, Int.cast_ofNat_Int, ite_same, UU2, UU3, UU4, UU7, UU8, Vq, UU9, UUa, Vr, Vs, PmL, simprocAttr, PmT, h0, h4, h5, h6, h7, hlt', hle', hw, hid, hgen, retQ, resP, tupA, fg, fgs, condP, condB_t, condB_f]; try (with_reducible (first | exact co_refl _ | exact co_own _ _ _ | exact co_nilsB | exact co_nilsL _ _))))
    have ht : l.take (k + 1) = l.take k ++ [x] := by rw [List.take_add_one, hx]; rfl
    refine ⟨l.length - (k + 1), by omega, k + 1, a4, ?_, ?_, ?_, ?_, ?_, ?_, ?_, by omega, rfl, ha4, hd4⟩
    all_goals (simp only [St.cut, Mem.cut, fg, fgs, upd_app, Nat.reduceEqDiff, ↓reduceIte, List.take_nil, List.map_nil, List.take_succ_cons, List.take_zero, List.map_cons, Option.map_some, Option.map_none, Nat.reduceLT, Nat.zero_lt_one, Nat.reduceAdd, List.length_append, List.length_cons, List.length_nil, List.append_assoc, Nat.add_assoc, Int.natCast_add, Int.cast_ofNat_Int, nom, h0, h4, h5, h6, h7, hw, ht, encL_snoc, Rg.c]; try rfl)
  · have hlt' := eq_false hlt
    obtain rfl : k = l.length := by omega
    rw [List.take_length] at h6 ⊢
    repeat' (first
      | (with_reducible (first
       | refine PW.seq fun K1 hK1 => ?_ | refine PW.region fun K2 hK2 => ?_ | (refine hK3 _ ?_; clear hK3) | (refine opsP_nil ?_; refine hK2 _ ?_; clear hK2) | refine litX_old ?_ | refine litC_data ?_ | (refine Exists.intro _ (Exists.intro _ (And.intro rfl (And.intro rfl (And.intro ?_ ?_)))); focus omega) | (refine hK1 _ ?_; clear hK1) | refine nilC_intro (fun hz => ?_) ?_
       | refine PW.block ?_ | refine PW.skip ?_ | refine PW.exit ?_ | refine PW.ret ?_ | (refine hX1 ?_; clear hX1 hY1; try simp only [hb]) | (refine hY1 ?_; clear hX1 hY1; try simp only [hb]) | exact co_refl _ | exact co_own _ _ _ | exact co_nilsB | exact co_nilsL _ _))
      | ((first | (with_reducible refine wantB_intro (fun hb => ?_) (fun hb => ?_)) | (with_reducible refine condB_intro (fun hb => ?_) (fun hb => ?_))) <;> ((try (have hp := hb; simp only [PmH, beq_iff_eq, beq_eq_false_iff_ne, ne_eq] at hp)); try simp only [hb, Bool.not_true, Bool.not_false]))
      | ((with_reducible refine cC_pure ?_ (hRB) (fun _ => ?_)); (focus ((repeat' constructor) <;> (simp only [purAs, purA, Vf, Bool.and_self, h0, h4, h5, h6, h7, hlt']; done))))
      | ((with_reducible refine And.intro ?_ ?_); (focus (first | omega | (simp; done) | assumption)))
      | (simp only [thenP, blockP, Nat.reduceEqDiff, ↓reduceIte]; (try ((repeat (fail_if_success (with_reducible refine hK1 _ ?_)); clear hK1); (with_reducible refine hK1 _ ?_); clear hK1)))
      | (with_reducible omega)
      | (assumption)
      | ((first | ((with_reducible refine opsP_cons fun K3 hK3 => ?_); simp only [wantP, opP, valP, Uy, U0, Ur, Us, List.mapM_cons, List.mapM_nil, Uw, Ux]) | (with_reducible refine PW.condM fun X1 Y1 hX1 hY1 => ?_) | skip); simp (disch := omega) only [wantP, wantB_tt, wantB_ff, wantB_tf, wantB_ft, opP, valP, St.eval, St.put, upd_app, iniT_app, avOf, avOf1, nom, cellsA, AV.okv, loadA, lenP, binP, intsP, intP, strP, eqP, nilP, convP, unP, builtinP, appP, srcA, srcTy, bsz, U0, U1, dvEqC, eqAll, srcAll, srcOk, appB, cellsV, maplenP, isMapA, isBsl, viewA, U2, U3, U4, U5, U6, slA, putCells, fillA, buildA, elA, dv1, U7, U8, U9, Ua, Ub, List.getElem?_nil, Uc, Ud, Ue, Uf, Ug, Uh, Ui, Uj, Uk, Ul, Um, Un, Uo, Up, Uq, Ur, Us, Ut, Uu, Uv, List.mapM_cons, List.mapM_nil, Uw, Ux, Uy, Uz, V0, V1, V2, V3, V4, V5, Option.bind_eq_bind, Option.pure_def, V6, V7, V8, V9, Va, Vb, Vc, Vd, Ve, Vt, Int.cast_ofNat_Int, ite_same, UU2, UU3, UU4, UU7, UU8, Vq, UU9, UUa, Vr, Vs, PmL, simprocAttr, PmT, h0, h4, h5, h6, h7, hlt', retQ, resP, tupA, fg, fgs, condP, condB_t, condB_f]; try (with_reducible (first | exact co_refl _ | exact co_own _ _ _ | exact co_nilsB | exact co_nilsL _ _))))
    all_goals trace_state
end PM
end Go.Proofs.Ytbeniogffhihlaa
