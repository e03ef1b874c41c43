/- pgwire's reference in the abstract: a made slice as a row; numbers, texts as bytes. -/
import Derived.Test.YthaekefdadccaaaDoorPgFB
namespace Go.Proofs.YthaekefdadccaaaDoor
open Go.RowKit
namespace PM
/-- bytes in a box that is handed back are a row -/
theorem PFun.box2row {P : Program} {f : Nat} {args : List AV} {e : TypeId} {l : List Int} (he : e < mapBase) (hp : 0 < l.length)
    (h : PFun P f args nom (.bsl 0 0 l.length l.length 1) ⟨[some (e, l.map fun n => AV.d (.int .u8 n))], []⟩) : PFun P f args nom (.own 0 1 (encB l)) ⟨[], [some ⟨e, 1, l.length⟩]⟩ := by
  intro G w vs hm ha
  have h1 := h G w vs hm ha
  have key : ∀ v w', (∃ G', MemR G' ⟨[some (e, l.map fun n => AV.d (.int .u8 n))], []⟩ w' ∧ Ev G nom w G' ⟨[some (e, l.map fun n => AV.d (.int .u8 n))], []⟩ w' ∧ RelA G' ⟨[some (e, l.map fun n => AV.d (.int .u8 n))], []⟩ w' (.bsl 0 0 l.length l.length 1) v) →
      ∃ G', MemR G' ⟨[], [some ⟨e, 1, l.length⟩]⟩ w' ∧ Ev G nom w G' ⟨[], [some ⟨e, 1, l.length⟩]⟩ w' ∧ RelA G' ⟨[], [some ⟨e, 1, l.length⟩]⟩ w' (.own 0 1 (encB l)) v := by
    rintro v w' ⟨G', k1, k2, k3⟩
    unfold RelA at k3
    obtain ⟨-, -, hcm, o, rfl, ho⟩ := k3
    obtain rfl := ho hp
    obtain ⟨⟨us, ob, q1, q2, q3⟩, q4⟩ := k1.box 0 e _ rfl
    obtain ⟨rfl, -⟩ := q3.cells he
    have hus : ∀ (i : Nat) n, l[i]? = some n → us[i]? = some (.int .u8 n) ∧ (Lit.int .u8 n).wf = true := fun i n hn => by
      obtain ⟨u, hu, hr⟩ := q2.get (i := i) (x := .d (.int .u8 n)) (by rw [List.getElem?_map, hn]; rfl)
      obtain ⟨rfl, hw⟩ := hr.int
      exact ⟨hu, hw⟩
    have hlen : us.length = l.length := by rw [← q2.len, List.length_map]
    refine ⟨{ G' with ri := fun _ => some (G'.bi 0), rc := fun _ => l.length }, ⟨k1.avlt, fun id e' cs hb => by simp at hb, fun r i hr => ?_, fun i j x y hi => by simp at hi, fun i j x y g hi hj _ _ => ?_, fun i j x y hi => by simp at hi⟩,
      ⟨k2.av, k2.fr, fun b o hk => ?_, fun id hid => by simp [nom] at hid, Nat.zero_le _, Nat.zero_le _, fun r i' hr => by simp [nom] at hr⟩, ?_⟩
    · cases r with
      | succ r => simp at hr
      | zero =>
        simp at hr
        subst hr
        refine ⟨Nat.one_pos, fun hg => (by cases hg), fun g hg => ?_⟩
        cases hg
        exact ⟨⟨_, q1, by simp [hlen]⟩, Nat.le_refl _, hcm, q4⟩
    · cases i <;> cases j <;> simp at hi hj <;> rfl
    · rcases hk with ⟨id, e', cs, hb, -⟩ | ⟨r, i, hr, hg, -⟩
      · simp at hb
      · cases hg
        exact k2.mt _ o (.inl ⟨0, e, _, rfl, rfl⟩)
    · unfold RelA
      refine ⟨by simp, ?_, fun i hi => ?_⟩
      · unfold RelD
        rw [encB_len]
        refine ⟨_, _, rfl, Nat.le_refl _, hcm, fun hn => (by cases hn), fun a ha' _ => ?_⟩
        cases ha'
        refine ⟨rfl, (relR_iff _ _).2 ⟨fun x hx => ?_, (relC_iff _ _).2 fun i x hx => ?_⟩⟩
        · unfold encB at hx
          obtain ⟨n, -, rfl⟩ := List.mem_map.1 hx
          rfl
        · have e2 := flat_encB l
          rw [e2, List.getElem?_map, Option.map_eq_some_iff] at hx
          obtain ⟨n, hn, rfl⟩ := hx
          obtain ⟨c1, c2⟩ := hus i n hn
          have hil : i < l.length := (List.getElem?_eq_some_iff.1 hn).1
          refine ⟨.int .u8 n, ?_, ?_, ?_⟩
          · have hb := box_cells k1 he (id := 0) (cs := l.map fun n => AV.d (.int .u8 n)) rfl 0
            obtain ⟨us', t1, -, t2⟩ := hb
            obtain ⟨u, hu, hr⟩ := t1.get (i := i) (x := .d (.int .u8 n)) (by rw [List.drop_zero, List.getElem?_map, hn]; rfl)
            obtain ⟨rfl, -⟩ := hr.int
            exact t2 i _ hu
          · rintro (hn1 | ⟨id, e', cs, hb, -⟩ | ⟨r, j, hr, hg, hj⟩)
            · exact q4 _ hn1
            · simp at hb
            · cases r with
              | succ r => simp at hr
              | zero => simp at hr; subst hr; simp at hj; omega
          · unfold RelD; exact ⟨rfl, c2⟩
      · simp at hi
        subst hi
        rw [encB_len]
        exact ⟨Nat.le_refl _, fun _ => rfl⟩
  unfold Runs at h1 ⊢
  split at h1
  · exact h1.mono fun r w' ⟨v, e1, e2⟩ => ⟨v, e1, key v w' e2⟩
  · exact key _ _ h1
  · exact h1.elim
theorem keep_02 (a b b' c : Option (TypeId × List AV)) (l : List (Option (TypeId × List AV))) (r r' : List (Option RowI)) : keepL [0, 2] ⟨a :: b :: c :: l, r⟩ ⟨a :: b' :: c :: l, r'⟩ := fun id h => by
  simp only [List.mem_cons, List.not_mem_nil, or_false] at h
  rcases h with rfl | rfl <;> rfl
theorem fdiv256 (n : Int) : n.fdiv 256 = n / 256 := Int.fdiv_eq_ediv_of_nonneg _ (by decide)
theorem shr8u : (2 : Int) ^ min 8 IntKind.i64.bits = 256 := by decide
set_option maxRecDepth 100000 in
theorem pRBig4b (n : Int) : PFun Tryd.prog 35 [.d (.int .i64 n), .d (.int .i64 4)] nom (.bsl 0 0 4 4 1) ⟨[some (5, (big4 n).map fun n => AV.d (.int .u8 n))], []⟩ := by
  refine fun_intro Tryd.func35 rfl rfl rfl 23 rfl ⟨Nat.zero_le _, Nat.le_refl _⟩ (fun hh => ?_)
  have hn := has_int (hh (.d (.int .i64 n)) (by simp))
  rw [wf_i64] at hn
  simp only [Bool.and_eq_true, decide_eq_true_eq] at hn
  repeat' (first
    | ((with_reducible (first
     | (refine PW.seq fun K1 hK1 => ?_) | (refine PW.region fun K2 hK2 => ?_) | ((refine hK3 _ ?_; clear hK3)) | ((refine opsP_nil ?_; refine hK2 _ ?_; clear hK2)) | (refine PW.rounds (id := 0) 5 ?_)
     | (refine rounds_more fun K1 hK1 => ?_) | (refine PW.block ?_) | (refine PW.skip ?_) | (refine PW.exit ?_) | (refine PW.ret ?_) | ((refine hX1 ?_; clear hX1 hY1; try simp only [hb])) | ((refine hY1 ?_; clear hX1 hY1; try simp only [hb])) )))
    | ((simp only [thenP, blockP, ↓reduceIte]; (try ((repeat (fail_if_success (with_reducible refine hK1 _ ?_)); clear hK1); (with_reducible refine hK1 _ ?_); clear hK1))))
    | (((first | (((with_reducible refine opsP_consD (d := 8) fun K3 hK3 => ?_); simp only [wantP, opP]; (with_reducible refine litX_box ?_))) | (((with_reducible refine opsP_cons fun K3 hK3 => ?_); simp only [wantP, opP, valP])) | ((with_reducible refine PW.condM fun X1 Y1 hX1 hY1 => ?_)) | (skip)); simp (disch := omega) only [St.eval, St.put, upd_app, iniT_app, avOf, avOf1, nom, cellsA, AV.okv, binP, intsP, intP, nilP, convP, U4, U5, slA, putCells, U7, U8, Ua, Uc, Ud, Uf, Ug, Ut, Uu, Uv, V8, V9, Va, Vb, Ve, Int.cast_ofNat_Int, Vr, Vs, PmL, simprocAttr, PmT, shr8u, wrap_u8, fdiv256, retQ, resP, tupA, fg, condP, condB_t, condB_f]; try (with_reducible (first | exact co_refl _ | exact co_own _ _ _ | exact co_nilsB | exact co_nilsL _ _)))))
  have e1 : n / 256 / 256 = n / 65536 := by omega
  have e2 : n / 65536 / 256 = n / 16777216 := by omega
  refine ⟨co_refl _, subM_box1 ?_⟩
  rw [e1, e2]
  have e3 : ∀ a b c d : AV, (((((List.replicate 4 [AV.d (DV.int IntKind.u8 0)]).flatten.set 3 a).set 2 b).set 1 c).set 0 d) = [d, c, b, a] := fun a b c d => rfl
  try rw [e3]
  simp only [fgs, fg]
  exact cos_refl _
set_option maxRecDepth 100000 in
theorem pRBig4 (n : Int) : PFun Tryd.prog 35 [.d (.int .i64 n), .d (.int .i64 4)] nom (.own 0 1 (encB (big4 n))) ⟨[], [some ⟨5, 1, (big4 n).length⟩]⟩ :=
  PFun.box2row (l := big4 n) (by decide) (by simp [big4]) (pRBig4b n)
set_option maxRecDepth 100000 in
theorem pRHas0 (s : List Int) : Pure Tryd.prog 61 [.d (.str s)] (.d (.bool (has0 s))) := by
  refine pure_intro Tryd.func61 rfl rfl rfl 14 rfl (fun hh => ?_)
  have hml := (has_str (hh (.d (.str s)) (by simp))).2
  have hmx : maxLen = 9223372036854775807 := rfl
  repeat' (first
    | ((with_reducible (first
     | (refine PW.seq fun K1 hK1 => ?_) | (refine PW.region fun K2 hK2 => ?_) | ((refine hK3 _ ?_; clear hK3)) | ((refine opsP_nil ?_; refine hK2 _ ?_; clear hK2)) 
     | (refine PW.block ?_) )))
    | ((simp only [thenP]; (try ((repeat (fail_if_success (with_reducible refine hK1 _ ?_)); clear hK1); (with_reducible refine hK1 _ ?_); clear hK1))))
    | (((first | (((with_reducible refine opsP_cons fun K3 hK3 => ?_); simp only [wantP, opP, valP])) | (skip)); simp (disch := omega) only [St.eval, St.put, avOf, avOf1, nom, PmL, simprocAttr]; try (with_reducible (first | exact co_refl _ | exact co_own _ _ _ | exact co_nilsB | exact co_nilsL _ _)))))
  (with_reducible refine PW.loop (fun n t => ∃ k : Nat, t.t 0 = .d (.str s) ∧ t.t 3 = .d (.int .i64 k) ∧ t.n = 14 ∧ t.m = nom ∧ k ≤ s.length ∧ n = s.length - k ∧ ∀ x ∈ s.take k, x ≠ 0) s.length ?_ ?_)
  · exact ⟨0, rfl, rfl, rfl, rfl, Nat.zero_le _, rfl, by simp⟩
  rintro n ⟨t, nn, m⟩ ⟨k, h0, h3, hn, hm, hk, hnk, hz⟩ - -
  simp only at h0 h3 hn hm
  subst hn hm
  by_cases hlt : (k : Int) < s.length
  · have hlt' := eq_true hlt
    obtain ⟨x, hx⟩ : ∃ x, s[k]? = some x := ⟨_, List.getElem?_eq_getElem (by omega)⟩
    have hw : IntKind.i64.wrap ((k : Int) + 1) = (k : Int) + 1 := wl_i64 (by simp only [Bool.and_eq_true, decide_eq_true_eq]; omega)
    by_cases hx0 : x = 0
    · have hx' := eq_true hx0
      have he : has0 s = true := (has0_iff s).2 (hx0 ▸ List.mem_of_getElem? hx)
      repeat' (first
        | ((with_reducible (first
         | (refine PW.seq fun K1 hK1 => ?_) | (refine PW.region fun K2 hK2 => ?_) | ((refine hK3 _ ?_; clear hK3)) | ((refine opsP_nil ?_; refine hK2 _ ?_; clear hK2)) 
         | (refine PW.block ?_) | (refine PW.skip ?_) | (refine PW.ret ?_) | ((refine hX1 ?_; clear hX1 hY1; try simp only [hb])) )))
        | (((with_reducible refine And.intro ?_ ?_); (focus (first | omega | (simp; done) | assumption))))
        | ((simp only [thenP, blockP]; (try ((repeat (fail_if_success (with_reducible refine hK1 _ ?_)); clear hK1); (with_reducible refine hK1 _ ?_); clear hK1))))
        | (((first | (((with_reducible refine opsP_cons fun K3 hK3 => ?_); simp only [wantP, opP, valP, Ur, Us])) | ((with_reducible refine PW.condM fun X1 Y1 hX1 hY1 => ?_)) | (skip)); simp (disch := omega) only [St.eval, St.put, upd_app, avOf, avOf1, nom, lenP, binP, intsP, intP, nilP, builtinP, isMapA, slA, V7, Ve, Vs, PmL, simprocAttr, PmT, h0, h3, hlt', hx, hx', retQ, resP, tupA, fg, condP, condB_t]; try (with_reducible (first | exact co_refl _ | exact co_own _ _ _ | exact co_nilsB | exact co_nilsL _ _)))))
      all_goals exact co_eq (by rw [he])
    · have hx' := eq_false hx0
      repeat' (first
        | ((with_reducible (first
         | (refine PW.seq fun K1 hK1 => ?_) | (refine PW.region fun K2 hK2 => ?_) | ((refine hK3 _ ?_; clear hK3)) | ((refine opsP_nil ?_; refine hK2 _ ?_; clear hK2)) 
         | (refine PW.block ?_) | (refine PW.skip ?_) | ((refine hX1 ?_; clear hX1 hY1; try simp only [hb])) | ((refine hY1 ?_; clear hX1 hY1; try simp only [hb])) )))
        | (((with_reducible refine And.intro ?_ ?_); (focus (first | omega | (simp; done) | assumption))))
        | ((simp only [thenP, blockP]; (try ((repeat (fail_if_success (with_reducible refine hK1 _ ?_)); clear hK1); (with_reducible refine hK1 _ ?_); clear hK1))))
        | (((first | (((with_reducible refine opsP_cons fun K3 hK3 => ?_); simp only [wantP, opP, valP, Ur, Us])) | ((with_reducible refine PW.condM fun X1 Y1 hX1 hY1 => ?_)) | (skip)); simp (disch := omega) only [St.eval, St.put, upd_app, avOf, avOf1, nom, lenP, binP, intsP, intP, nilP, builtinP, isMapA, slA, Ug, V7, Ve, UU2, Vs, PmL, simprocAttr, PmT, h0, h3, hlt', hx, hx', hw, condP, condB_t, condB_f]; try (with_reducible (first | exact co_refl _ | exact co_own _ _ _ | exact co_nilsB | exact co_nilsL _ _)))))
      refine ⟨s.length - (k + 1), by omega, k + 1, ?_, ?_, ?_, ?_, by omega, rfl, ?_⟩
      case refine_5 =>
        intro y hy
        rw [take_snoc' hx] at hy
        rcases List.mem_append.1 hy with hy | hy
        · exact hz y hy
        · obtain rfl := List.mem_singleton.1 hy
          exact hx0
      all_goals (simp only [St.cut, Mem.cut, fg, upd_app, Nat.reduceEqDiff, ↓reduceIte, List.take_nil, List.map_nil, Int.natCast_add, Int.cast_ofNat_Int, h0]; try rfl)
  · have hlt' := eq_false hlt
    have he : has0 s = false := by
      rw [Bool.eq_false_iff, ne_eq, has0_iff]
      intro h
      rw [List.take_of_length_le (by omega)] at hz
      exact hz 0 h rfl
    repeat' (first
      | ((with_reducible (first
       | (refine PW.seq fun K1 hK1 => ?_) | (refine PW.region fun K2 hK2 => ?_) | ((refine hK3 _ ?_; clear hK3)) | ((refine opsP_nil ?_; refine hK2 _ ?_; clear hK2)) 
       | (refine PW.exit ?_) | (refine PW.ret ?_) | ((refine hY1 ?_; clear hX1 hY1; try simp only [hb])) )))
      | ((simp only [thenP, blockP, ↓reduceIte]; (try ((repeat (fail_if_success (with_reducible refine hK1 _ ?_)); clear hK1); (with_reducible refine hK1 _ ?_); clear hK1))))
      | (((first | (((with_reducible refine opsP_cons fun K3 hK3 => ?_); simp only [wantP, opP, valP, Ur, Us])) | ((with_reducible refine PW.condM fun X1 Y1 hX1 hY1 => ?_)) | (skip)); simp (disch := omega) only [St.eval, St.put, upd_app, avOf, avOf1, nom, lenP, binP, intsP, intP, nilP, builtinP, isMapA, slA, PmL, simprocAttr, PmT, h0, h3, hlt', retQ, resP, tupA, fg, condP, condB_f]; try (with_reducible (first | exact co_refl _ | exact co_own _ _ _ | exact co_nilsB | exact co_nilsL _ _)))))
    all_goals exact co_eq (by rw [he])
set_option maxRecDepth 100000 in
theorem pRNumber (n : Int) : Pure Tryd.prog 63 [.d (.int .i64 n)] (.d (.bool (i32ok n))) := by
  refine pure_intro Tryd.func63 rfl rfl rfl 9 rfl (fun hh => ?_)
  repeat' (first
    | ((with_reducible (first
     | (refine PW.seq fun K1 hK1 => ?_) | (refine PW.region fun K2 hK2 => ?_) | ((refine hK3 _ ?_; clear hK3)) | ((refine opsP_nil ?_; refine hK2 _ ?_; clear hK2)) 
     | (refine PW.ret ?_) )))
    | ((simp only [thenP]; (try ((repeat (fail_if_success (with_reducible refine hK1 _ ?_)); clear hK1); (with_reducible refine hK1 _ ?_); clear hK1))))
    | (((first | ((with_reducible (first | refine opsP_consMt (d := ?_) (dj := ?_) (b := ?_) (r := ?_) ?_ ?_ (fun hb => ?_) (fun K3 hK3 => ?_) | refine opsP_consMf (d := ?_) (dj := ?_) (b := ?_) (r := ?_) ?_ ?_ (fun hb => ?_) (fun K3 hK3 => ?_))); rotate_left 3; (focus exact rfl); (focus (simp only [upd_app, simprocAttr]; exact rfl))) | ((with_reducible (first | refine opsP_consNt (d := ?_) (dj := ?_) (b := ?_) (r := ?_) (c := ?_) ?_ ?_ (fun hb => ?_) (fun K3 hK3 => ?_) | refine opsP_consNf (d := ?_) (dj := ?_) (b := ?_) (r := ?_) (c := ?_) ?_ ?_ (fun hb => ?_) (fun K3 hK3 => ?_))); rotate_left 4; (focus exact rfl); (focus (simp only [St.put, upd_app, iniT_app, simprocAttr, mrg_t, mrg_f]; exact rfl)))); (focus (simp only [opP, valP]; (try (simp only [Bool.and_eq_true, Bool.not_eq_true'] at hb)); (try (have hp := hb; simp only [PmH] at hp)); simp (disch := omega) only [St.eval, upd_app, iniT_app, avOf, avOf1, binP, intsP, intP, nilP, slA, U7, PmL, simprocAttr, mrg_t, hb]; (repeat' (first | (exact rfl) | ((refine And.intro ?_ ?_); (focus (exact rfl)); (exact rfl)) | (refine And.intro (by first | omega | (simp; done) | assumption) ?_))); done)); (try simp only [St.put, Nat.reduceLT, ↓reduceIte])))
    | (((first | (((with_reducible refine opsP_cons fun K3 hK3 => ?_); simp only [wantP, opP, valP])) | (skip)); simp (disch := omega) only [St.eval, St.put, upd_app, iniT_app, avOf, avOf1, nom, binP, intsP, intP, nilP, slA, U7, Ve, PmL, simprocAttr, pick_and, retQ, resP, tupA, fg]; try (with_reducible (first | exact co_refl _ | exact co_own _ _ _ | exact co_nilsB | exact co_nilsL _ _)))))
  all_goals exact co_eq rfl
set_option maxRecDepth 100000 in
theorem pRStr (s : List Int) (hs : s.length ≤ 140737488355000) : PFun Tryd.prog 62 [.nils, .d (.str s)] nom (.own 0 1 (encB (s ++ [0]))) ⟨[], [some ⟨5, 1, (s ++ [0]).length⟩]⟩ := by
  refine fun_intro Tryd.func62 rfl rfl rfl 11 rfl ⟨Nat.le_refl _, Nat.zero_le _⟩ (fun hh => ?_)
  unfold nom
  (with_reducible refine PW.nil2ownB (bx := ?_) 0 5 ?_ ?_ ?_; rotate_left 1; (focus (simp only [iniT_app, List.getD_cons_zero])); (focus (exact rfl)))
  repeat' (first
    | ((with_reducible (first
     | (refine PW.seq fun K1 hK1 => ?_) | (refine PW.region fun K2 hK2 => ?_) | ((refine hK3 _ ?_; clear hK3)) | ((refine opsP_nil ?_; refine hK2 _ ?_; clear hK2)) | (refine litX_old ?_) | (refine litC_data ?_) 
     | (refine PW.ret ?_) )))
    | (((with_reducible refine And.intro ?_ ?_); (focus (first | omega | (simp; done) | assumption))))
    | ((simp only [thenP]; (try ((repeat (fail_if_success (with_reducible refine hK1 _ ?_)); clear hK1); (with_reducible refine hK1 _ ?_); clear hK1))))
    | (((first | (((with_reducible refine opsP_cons fun K3 hK3 => ?_); simp only [wantP, opP, valP, Ur, Us, List.mapM_cons, List.mapM_nil, Uw, Ux])) | (skip)); simp (disch := omega) only [St.eval, St.put, upd_app, iniT_app, avOf, avOf1, cellsA, AV.okv, builtinP, appP, srcA, srcTy, isBsl, U3, U4, U5, elA, dv1, U7, U8, Ua, Uc, Uf, Ug, Ui, Ut, Uu, Uv, List.mapM_cons, List.mapM_nil, Uw, Ux, V0, V1, V2, V4, Option.bind_eq_bind, Option.pure_def, V9, Ve, UU9, Vs, PmL, simprocAttr, PmT, retQ, resP, tupA, fg]; try (with_reducible (first | exact co_refl _ | exact co_own _ _ _ | exact co_nilsB | exact co_nilsL _ _)))))
  all_goals (try (focus ((try simp only [big4]); (repeat' split) <;> (first | (exfalso; omega) | ((try ((with_reducible refine And.intro ?_ ?_); rotate_left 1; (focus (first | exact subM_row1 | exact subM_nom _ | (refine subM_box1 ?_; simp only [fgs, fg]; (repeat' (first | exact cos_refl _ | refine cos_cons ?_ ?_ | exact co_refl _ | exact co_nilsB | exact co_own _ _ _ | exact co_nilsL _ _ | exact co_nils _ | refine co_agg ?_ | refine co_tup ?_)); done))))); (first | ((repeat' (first | exact cos_refl _ | refine cos_cons ?_ ?_ | exact co_refl _ | exact co_nilsB | exact co_own _ _ _ | exact co_nilsL _ _ | exact co_nils _ | refine co_agg ?_ | refine co_tup ?_)); done) | (refine co_eq ?_; simp_all; done))) | (exfalso; simp_all; done)))))
set_option maxRecDepth 100000 in
theorem pRStro (l s : List Int) (hs : l.length + s.length ≤ 140737488355000) : PFun Tryd.prog 62 [.own 0 1 (encB l), .d (.str s)] ⟨[], [some ⟨5, 1, l.length⟩]⟩ (.own 0 1 (encB (l ++ s ++ [0]))) ⟨[], [some ⟨5, 1, (l ++ s ++ [0]).length⟩]⟩ := by
  refine fun_intro Tryd.func62 rfl rfl rfl 11 rfl ⟨Nat.le_refl _, Nat.le_refl _⟩ (fun hh => ?_)
  repeat' (first
    | ((with_reducible (first
     | (refine PW.seq fun K1 hK1 => ?_) | (refine PW.region fun K2 hK2 => ?_) | ((refine hK3 _ ?_; clear hK3)) | ((refine opsP_nil ?_; refine hK2 _ ?_; clear hK2)) | (refine litX_old ?_) | (refine litC_data ?_) 
     | (refine PW.ret ?_) )))
    | (((with_reducible refine And.intro ?_ ?_); (focus (first | omega | (simp; done) | assumption))))
    | ((simp only [thenP]; (try ((repeat (fail_if_success (with_reducible refine hK1 _ ?_)); clear hK1); (with_reducible refine hK1 _ ?_); clear hK1))))
    | (((first | (((with_reducible refine opsP_cons fun K3 hK3 => ?_); simp only [wantP, opP, valP, Ur, Us, List.mapM_cons, List.mapM_nil, Uw, Ux])) | (skip)); simp (disch := omega) only [St.eval, St.put, upd_app, iniT_app, avOf, avOf1, cellsA, AV.okv, builtinP, appP, srcA, srcTy, isBsl, U3, U4, U5, elA, dv1, U7, U8, Ua, Uc, Uf, Ug, Ui, Ut, Uu, Uv, List.mapM_cons, List.mapM_nil, Uw, Ux, V0, V1, V2, V4, Option.bind_eq_bind, Option.pure_def, V9, Ve, UU9, Vs, PmL, simprocAttr, PmT, retQ, resP, tupA, fg]; try (with_reducible (first | exact co_refl _ | exact co_own _ _ _ | exact co_nilsB | exact co_nilsL _ _)))))
  all_goals (try (focus ((try simp only [big4]); (repeat' split) <;> (first | (exfalso; omega) | ((try ((with_reducible refine And.intro ?_ ?_); rotate_left 1; (focus (first | exact subM_row1 | exact subM_nom _ | (refine subM_box1 ?_; simp only [fgs, fg]; (repeat' (first | exact cos_refl _ | refine cos_cons ?_ ?_ | exact co_refl _ | exact co_nilsB | exact co_own _ _ _ | exact co_nilsL _ _ | exact co_nils _ | refine co_agg ?_ | refine co_tup ?_)); done))))); (first | ((repeat' (first | exact cos_refl _ | refine cos_cons ?_ ?_ | exact co_refl _ | exact co_nilsB | exact co_own _ _ _ | exact co_nilsL _ _ | exact co_nils _ | refine co_agg ?_ | refine co_tup ?_)); done) | (refine co_eq ?_; simp_all; done))) | (exfalso; simp_all; done)))))
end PM
end Go.Proofs.YthaekefdadccaaaDoor
