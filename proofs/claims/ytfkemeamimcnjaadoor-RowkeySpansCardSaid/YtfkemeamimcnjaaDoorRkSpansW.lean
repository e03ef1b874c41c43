/- rowkey: RowkeySpans. -/
import Derived.Test.YtfkemeamimcnjaaDoorRks2
import Derived.Test.YtfkemeamimcnjaaDoorRks3
import Derived.Test.YtfkemeamimcnjaaDoorRks4
import Derived.Test.YtfkemeamimcnjaaDoorRkShown
set_option linter.unusedVariables false
set_option linter.unusedSimpArgs false
namespace Go.Proofs.YtfkemeamimcnjaaDoor
open Go.RowKit
set_option maxRecDepth 100000
namespace PM
theorem wrs_own {B : Nat} {G : Gh} {m : Mem} {w : World} {r : Nat} {l : List Int} {u : Value} (hm : MemR G m w) (ho : oldG B G) (hr : m.row[r]? = some (rwO l)) (h : RelA G m w (.own r 1 (encB l)) u) : WrS w B u := by
  unfold RelA at h
  obtain ⟨-, -, h2⟩ := h
  obtain ⟨-, q1, q2⟩ := hm.row r ⟨5, 1, l.length⟩ hr
  have hv := (h2 _ hr).2 (by rw [encB_len])
  rw [encB_len] at hv
  subst hv
  have hml : maxLen = 9223372036854775807 := rfl
  cases hg : G.ri r with
  | none =>
    have := q1 hg
    simp only at this
    exact ⟨_, _, _, rfl, by omega, fun hn => by omega⟩
  | some g =>
    obtain ⟨⟨cur, c1, c2⟩, c3, c4, c5⟩ := q2 g hg
    have hB : B ≤ g := by
      have := c5 0
      rw [ho] at this
      omega
    simp only at c2 c3
    refine ⟨_, _, _, rfl, ?_, fun hn => ⟨g, cur, rfl, hB, c1, by omega⟩⟩
    omega
/-- ahead of mark -/
def MarkR (a1 a2 b1 b2 d1 d2 : List Int) (s : St) : Prop := ∃ x0 x1 x2, s.t 44 = .bsl 3 0 6 6 1 ∧ s.n = 62 ∧ s.t 5 = .d (.bool true) ∧ s.t 9 = .d (.bool true) ∧ s.t 10 = .d (.bool true) ∧ s.t 11 = .d (.bool true) ∧
  s.m = ⟨[x0, x1, x2, some (29, [.own 0 1 (encB a1), .own 1 1 (encB a2), .own 2 1 (encB b1), .own 3 1 (encB b2), .own 4 1 (encB d1), .own 5 1 (encB d2)])], [rwO a1, rwO a2, rwO b1, rwO b2, rwO d1, rwO d2]⟩
def sMark : St := ⟨upd (upd (upd (upd (fun _ => .junk) 5 (.d (.bool true))) 9 (.d (.bool true))) 10 (.d (.bool true))) 11 (.d (.bool true)), 62, nom⟩
theorem put_ne {a : Act} {v : Value} {d i : Nat} (h : i ≠ d) : (a.put (some d) v).tmps.getD i undef = a.tmps.getD i undef := by
  unfold Act.put
  simp only [Array.getD_eq_getD_getElem?, Array.getElem?_setIfInBounds]
  rw [if_neg (fun e => h e.symm)]
theorem PWB.mark {B : Nat} {a1 a2 b1 b2 d1 d2 : List Int} {l : List Oper} (oc : Oper) {ts : Array TypeId} {y : Code} {Q : Exit → St → Prop} {s : St} (hl : l = l.take 13 ++ [oc]) (hop : oc.op = .call ⟨.value (.func 29), #[.tmp 44], ts⟩) (hd : oc.dst = some 45) (hg : oc.guard = none)
    (h1 : ∀ K2 : St → Prop, (∀ s', MarkR a1 a2 b1 b2 d1 d2 s' → K2 s') → opsP Tryd.prog l.toArray (l.take 13) K2 s) (h2 : PWB B Tryd.prog y Q sMark) : PWB B Tryd.prog (.seq (.region 8 l.toArray false) y) Q s := by
  refine PWB.seq fun K hK => ?_
  intro G a w hs ho hB
  refine wp_region_lit ?_
  rw [show wpList Tryd.prog l.toArray _ l a w = wpList Tryd.prog l.toArray _ (l.take 13 ++ [oc]) a w from by rw [← hl]]
  refine ops_split (s0 := s) (G0 := G) (w0 := w) (K := MarkR a1 a2 b1 b2 d1 d2) (fun G' s' a' w' k1 k2 k3 => ?_) (l.take 13) s G a w (h1 _ fun _ h => h) hs (.refl _ _ _)
  obtain ⟨x0, x1, x2, t44, hn, t5, t9, t10, t11, hm⟩ := k3
  have ho' := k2.old ho
  have hbel := k2.belowB hs.mem ho hB
  have e44 := k1.t 44
  rw [t44] at e44
  unfold RelA at e44
  obtain ⟨-, -, -, o, e44, hoo⟩ := e44
  obtain rfl := hoo (by omega)
  obtain ⟨⟨us, ob, q1, q2, q3⟩, -⟩ := k1.mem.box 3 29 _ (by rw [hm]; rfl)
  obtain ⟨rfl, -⟩ := q3.cells (by decide)
  have hlen : us.length = 6 := by rw [← q2.len]; rfl
  have hrow : ∀ (r : Nat) (x : List Int), [rwO a1, rwO a2, rwO b1, rwO b2, rwO d1, rwO d2][r]? = some (rwO x) → s'.m.row[r]? = some (rwO x) := fun r x h => by rw [hm]; exact h
  have hus : ∀ u ∈ us, WrS w' B u := fun u hu => by
    obtain ⟨j, hj⟩ := List.getElem?_of_mem hu
    have hj6 : j < 6 := by rw [← hlen]; exact (List.getElem?_eq_some_iff.1 hj).1
    have g := fun x hx => q2.get (i := j) (x := x) hx
    have key : ∀ (x : List Int), [rwO a1, rwO a2, rwO b1, rwO b2, rwO d1, rwO d2][j]? = some (rwO x) → [AV.own 0 1 (encB a1), .own 1 1 (encB a2), .own 2 1 (encB b1), .own 3 1 (encB b2), .own 4 1 (encB d1), .own 5 1 (encB d2)][j]? = some (.own j 1 (encB x)) → WrS w' B u := fun x r1 r2 => by
      obtain ⟨u', e1, e2⟩ := g _ r2
      rw [hj] at e1
      cases e1
      exact wrs_own k1.mem ho' (hrow j x r1) e2
    match j, hj6 with
    | 0, _ => exact key a1 rfl rfl
    | 1, _ => exact key a2 rfl rfl
    | 2, _ => exact key b1 rfl rfl
    | 3, _ => exact key b2 rfl rfl
    | 4, _ => exact key d1 rfl rfl
    | 5, _ => exact key d2 rfl rfl
  have hW : WrL w' B (G'.bi 3) us := ⟨⟨us.toArray, q1, rfl⟩, (Array.getElem?_eq_some_iff.1 q1).1, hus⟩
  have hmk := mark_any B (G'.bi 3) us w' hW (by omega)
  have e44' : (oc.op = .call ⟨.value (.func 29), #[.tmp 44], ts⟩) := hop
  unfold wpList
  rw [if_pos (by unfold Region.wanted; rw [hg])]
  refine .inl (wp_call_op (f := 29) (R := fun v w'' => Below B w' w'') hop rfl ?_ fun v w'' hv => ?_)
  · unfold Runs
    have ea : List.map a'.eval (#[Operand.tmp 44].toList) = [.slice (some ⟨G'.bi 3, 0, none⟩) us.length us.length] := by
      rw [hlen]
      show [a'.tmps.getD 44 undef] = _
      rw [e44]
    rw [ea]
    have hcall : (callFunc 29 #[.slice (some ⟨G'.bi 3, 0, none⟩) us.length us.length]).run Tryd.prog w' = .ok (.enter 29 #[.slice (some ⟨G'.bi 3, 0, none⟩) us.length us.length]) w' := by
      simp [callFunc, Tryd.func29]
      rfl
    rw [hcall]
    exact hmk.mono fun e w'' ⟨h1, h2⟩ => ⟨_, h1, h2⟩
  · rw [hd]
    show ∃ G' s', _
    have hb2 := hbel.trans hv
    have tb : ∀ j : Nat, s'.t j = .d (.bool true) → j ≠ 45 → (a'.put (some 45) v).tmps.getD j undef = .bool true := fun j hj hne => by
      rw [put_ne hne]
      have := k1.t j
      rw [hj] at this
      exact this.bool
    have rb : ∀ j : Nat, (a'.put (some 45) v).tmps.getD j undef = .bool true → RelA (Gold B) nom w'' (.d (.bool true)) ((a'.put (some 45) v).tmps.getD j undef) := fun j hj => by
      rw [hj]
      unfold RelA RelD
      rfl
    refine ⟨Gold B, sMark, ⟨gold_mem (Nat.le_trans hB hb2.size), fun j => ?_, ?_, k1.df⟩, gold_old, hb2, hK _ h2⟩
    · show RelA _ nom w'' (upd (upd (upd (upd (fun _ => .junk) 5 (.d (.bool true))) 9 (.d (.bool true))) 10 (.d (.bool true))) 11 (.d (.bool true)) j) _
      by_cases j11 : j = 11
      · subst j11; rw [upd_eq]; exact rb _ (tb _ t11 (by decide))
      rw [upd_ne _ _ j11]
      by_cases j10 : j = 10
      · subst j10; rw [upd_eq]; exact rb _ (tb _ t10 (by decide))
      rw [upd_ne _ _ j10]
      by_cases j9 : j = 9
      · subst j9; rw [upd_eq]; exact rb _ (tb _ t9 (by decide))
      rw [upd_ne _ _ j9]
      by_cases j5 : j = 5
      · subst j5; rw [upd_eq]; exact rb _ (tb _ t5 (by decide))
      rw [upd_ne _ _ j5]
      unfold RelA
      trivial
    · show (a'.tmps.setIfInBounds 45 v).size = _
      rw [Array.size_setIfInBounds, k1.n, hn]
      rfl
set_option maxHeartbeats 4000000 in
theorem spans_calls (n i : Int) (hn : (Lit.int .i64 n).wf = true) (hi : (Lit.int .i64 i).wf = true) (w : World) :
    Calls Tryd.prog 8 #[.int .i64 n, .int .i64 i] w fun e w' => ∃ v G', e = .returned v ∧ Below w.heap.size w w' ∧ RelA G' nom w' (.d (.bool true)) v := by
  refine calls_of_pwb (vs := [.int .i64 n, .int .i64 i]) (args := [.d (.int .i64 n), .d (.int .i64 i)]) Tryd.func8 rfl rfl 62 rfl (.cons (relA_int hn) (.cons (relA_int hi) .nil)) ?_
  obtain ⟨B, hBe⟩ : ∃ B, w.heap.size = B := ⟨_, rfl⟩
  rw [hBe]
  clear hBe w
  have hS := pShown
  have hCat := pCatO
  have hTab := pTabO n
  have hIx := pIxO n i
  have rCat := pRCatSpan
  have rTab := pRTabSpan n
  have rIx := pRIxSpan n i
  have s1 := pSameSpan ([1], [2])
  have s2 := pSameSpan (tabSp n)
  have s3 := pSameSpan (ixSp n i)
  have c1 := pCatSpan
  obtain ⟨⟨a1, a2⟩, ha⟩ : ∃ x : List Int × List Int, ([1], [2]) = x := ⟨_, rfl⟩
  obtain ⟨⟨b1, b2⟩, hb⟩ : ∃ x, tabSp n = x := ⟨_, rfl⟩
  obtain ⟨⟨d1, d2⟩, hd⟩ : ∃ x, ixSp n i = x := ⟨_, rfl⟩
  rw [ha] at hCat rCat s1 c1
  rw [hb] at hTab rTab s2
  rw [hd] at hIx rIx s3
  unfold spO spM at hCat hTab hIx
  unfold spA at rCat rTab rIx s1 s2 s3 c1
  simp only at hCat hTab hIx rCat rTab rIx s1 s2 s3 c1
  repeat' (first
    | ((with_reducible first | refine PWB.seqR (id := 0) (fun K1 hK1 => ?_) | refine PWB.seqR (id := 1) (fun K1 hK1 => ?_) | refine PWB.seqR (id := 2) (fun K1 hK1 => ?_) | refine PWB.seqR (id := 3) (fun K1 hK1 => ?_) | refine PWB.seqR (id := 4) (fun K1 hK1 => ?_) | refine PWB.seqR (id := 5) (fun K1 hK1 => ?_) | refine PWB.seqR (id := 6) (fun K1 hK1 => ?_) | refine PWB.seqR (id := 7) (fun K1 hK1 => ?_)))
    | ((with_reducible refine callP_new2 ?_ hCat ?_); (focus (exact rfl)); simp only [List.cons_append, List.nil_append, List.length_cons, List.length_nil, Nat.zero_add, Nat.reduceAdd])
    | ((with_reducible refine callP_new2 ?_ hTab ?_); (focus (exact rfl)); simp only [List.cons_append, List.nil_append, List.length_cons, List.length_nil, Nat.zero_add, Nat.reduceAdd])
    | ((with_reducible refine callP_new2 ?_ hIx ?_); (focus (exact rfl)); simp only [List.cons_append, List.nil_append, List.length_cons, List.length_nil, Nat.zero_add, Nat.reduceAdd])
    | (with_reducible (first
     | refine PW.seq fun K1 hK1 => ?_ | refine PW.region fun K2 hK2 => ?_ | (refine hK3 _ ?_; clear hK3) | (refine opsP_nil ?_; refine hK2 _ ?_; clear hK2) | refine litX_old ?_ | refine litC_data ?_ | (refine Exists.intro _ (Exists.intro _ (And.intro rfl (And.intro rfl (And.intro ?_ ?_)))); focus omega) | (refine hK1 _ ?_; clear hK1) | refine nilC_intro (fun hz => ?_) ?_ | refine PW.block ?_ | refine PW.skip ?_
     | refine PW.exit ?_ | refine PW.ret ?_ | (refine hX1 ?_; clear hX1 hY1; try simp only [hb]) | (refine hY1 ?_; clear hX1 hY1; try simp only [hb]) | exact co_refl _ | exact co_own _ _ _ | exact co_nilsB | exact co_nilsL _ _ | (refine opsO_nil ?_; refine hK2 _ ?_; clear hK2) | (refine keepO_intro ?_ ?_; focus (first | exact .inl (keep_same _ _) | exact .inl (keep_box _ _ _ _) | exact .inl (keep_hd _ _ _ _ _) | exact .inl (keep_02 _ _ _ _ _ _ _) | exact .inl (keep_1 _ _ _ _ _ _ _) | exact .inr ⟨rfl, rfl⟩)) | (refine keepA_intro ?_ ?_; focus (first | exact keep_same _ _ | exact keep_box _ _ _ _ | exact keep_hd _ _ _ _ _ | exact keep_02 _ _ _ _ _ _ _ | exact keep_1 _ _ _ _ _ _ _))))
    | ((first | (with_reducible refine wantB_intro (fun hb => ?_) (fun hb => ?_)) | (with_reducible refine condB_intro (fun hb => ?_) (fun hb => ?_))) <;> ((try (have hp := hb; simp only [PmH, beq_iff_eq, beq_eq_false_iff_ne, ne_eq] at hp)); try simp only [hb, Bool.not_true, Bool.not_false]))
    | ((with_reducible refine cC_pure ?_ (hS) (fun _ => ?_)); (focus ((repeat' constructor); done)))
    | ((with_reducible refine cC_pure ?_ (rCat) (fun _ => ?_)); (focus ((repeat' constructor); done)))
    | ((with_reducible refine cC_pure ?_ (rTab) (fun _ => ?_)); (focus ((repeat' constructor); done)))
    | ((with_reducible refine cC_pure ?_ (rIx) (fun _ => ?_)); (focus ((repeat' constructor); done)))
    | ((with_reducible refine cC_pure ?_ (s1) (fun _ => ?_)); (focus ((repeat' constructor); done)))
    | ((with_reducible refine cC_pure ?_ (s2) (fun _ => ?_)); (focus ((repeat' constructor); done)))
    | ((with_reducible refine cC_pure ?_ (s3) (fun _ => ?_)); (focus ((repeat' constructor); done)))
    | ((with_reducible refine fC_call ?_ (hS) ?_); (focus ((repeat' constructor); done)))
    | ((with_reducible refine fC_call ?_ (rCat) ?_); (focus ((repeat' constructor); done)))
    | ((with_reducible refine fC_call ?_ (rTab) ?_); (focus ((repeat' constructor); done)))
    | ((with_reducible refine fC_call ?_ (rIx) ?_); (focus ((repeat' constructor); done)))
    | ((with_reducible refine fC_call ?_ (s1) ?_); (focus ((repeat' constructor); done)))
    | ((with_reducible refine fC_call ?_ (s2) ?_); (focus ((repeat' constructor); done)))
    | ((with_reducible refine fC_call ?_ (s3) ?_); (focus ((repeat' constructor); done)))
    | ((with_reducible refine PW.drawR (id := 5) mixed [] [(0, true), (1, false), (2, false), (3, true)] (by kernel_rfl) (by decide) fun K2 hK2 => ?_))
    | ((with_reducible refine PW.drawR (id := 6) mixed [] [(0, true), (1, true), (2, false), (3, false), (4, true)] (by kernel_rfl) (by decide) fun K2 hK2 => ?_))
    | ((with_reducible refine PW.drawR (id := 7) mixed [] [(0, true), (1, true), (2, true), (3, false), (4, false), (5, true)] (by kernel_rfl) (by decide) fun K2 hK2 => ?_))
    | ((with_reducible refine And.intro ?_ ?_); (focus (first | omega | (simp; done) | assumption)))
    | (simp only [thenP, blockP, Nat.reduceEqDiff, ↓reduceIte]; (try ((repeat (fail_if_success (with_reducible refine hK1 _ ?_)); clear hK1); (with_reducible refine hK1 _ ?_); clear hK1)))
    | (with_reducible omega)
    | (assumption)
    | ((first | ((with_reducible refine opsP_cons fun K3 hK3 => ?_); simp only [wantP, opP, valP, Uy, U0, Ur, Us, List.mapM_cons, List.mapM_nil, Uw, Ux]) | ((with_reducible refine opsO_first (o := ?_) ?_ fun K3 hK3 => ?_); rotate_left 1; (focus (simp only [Uz, Ub, Ua] <;> rfl)); simp only [wantP, firstP, valP, Uy, U0, Ur, Us, List.mapM_cons, List.mapM_nil, Uw, Ux]) | ((with_reducible refine opsO_only (o := ?_) ?_ fun K3 hK3 => ?_); rotate_left 1; (focus (simp only [Uz, Ub, Ua] <;> rfl)); simp only [wantP, opP, valP, Uy, U0, Ur, Us, List.mapM_cons, List.mapM_nil, Uw, Ux]) | (with_reducible refine PW.condM fun X1 Y1 hX1 hY1 => ?_) | skip); simp (disch := omega) only [wantP, wantB_tt, wantB_ff, wantB_tf, wantB_ft, opP, valP, St.eval, St.put, upd_app, iniT_app, avOf, avOf1, nom, cellsA, AV.okv, loadA, lenP, binP, intsP, intP, strP, eqP, nilP, convP, unP, builtinP, bsz, U0, U1, dvEqC, eqAll, cellsV, maplenP, isMapA, isBsl, viewA, U2, U3, U4, U5, U6, slA, putCells, fillA, buildA, elA, dv1, U7, U8, U9, Ua, Ub, List.getElem?_nil, Uc, Ud, Ue, Uf, Ug, Uh, Ui, Uj, Uk, Ul, Um, Un, Uo, Up, Uq, Ur, Us, Ut, Uu, Uv, List.mapM_cons, List.mapM_nil, Uw, Ux, Uy, Uz, V0, V1, V2, V3, V4, V5, Option.bind_eq_bind, Option.pure_def, V6, V7, V8, V9, Va, Vb, Vc, Vd, Ve, Vt, Int.cast_ofNat_Int, ite_same, UU2, UU3, UU4, UU7, UU8, Vq, UU9, UUa, Vr, Vs, PmL, simprocAttr, PmT, retQ, resP, tupA, fg, fgs, condP, condB_t, condB_f, firstP, firstOk, List.mem_range, List.mem_singleton, List.mem_cons]; try (with_reducible (first | exact co_refl _ | exact co_own _ _ _ | exact co_nilsB | exact co_nilsL _ _))))
  refine PWB.mark (a1 := a1) (a2 := a2) (b1 := b1) (b2 := b2) (d1 := d1) (d2 := d2) _ rfl rfl rfl rfl (fun K2 hK2 => ?_) ?_
  · simp only [List.take_succ_cons, List.take_zero]
    repeat' (first
      | (with_reducible (first
       | refine PW.seq fun K1 hK1 => ?_ | refine PW.region fun K2 hK2 => ?_ | (refine hK3 _ ?_; clear hK3) | (refine opsP_nil ?_; refine hK2 _ ?_; clear hK2) | refine litX_old ?_ | refine litC_data ?_ | (refine Exists.intro _ (Exists.intro _ (And.intro rfl (And.intro rfl (And.intro ?_ ?_)))); focus omega) | (refine hK1 _ ?_; clear hK1) | refine nilC_intro (fun hz => ?_) ?_ | refine PW.block ?_ | refine PW.skip ?_
       | refine PW.exit ?_ | refine PW.ret ?_ | (refine hX1 ?_; clear hX1 hY1; try simp only [hb]) | (refine hY1 ?_; clear hX1 hY1; try simp only [hb]) | exact co_refl _ | exact co_own _ _ _ | exact co_nilsB | exact co_nilsL _ _ | (refine opsO_nil ?_; refine hK2 _ ?_; clear hK2) | (refine keepO_intro ?_ ?_; focus (first | exact .inl (keep_same _ _) | exact .inl (keep_box _ _ _ _) | exact .inl (keep_hd _ _ _ _ _) | exact .inl (keep_02 _ _ _ _ _ _ _) | exact .inl (keep_1 _ _ _ _ _ _ _) | exact .inr ⟨rfl, rfl⟩)) | (refine keepA_intro ?_ ?_; focus (first | exact keep_same _ _ | exact keep_box _ _ _ _ | exact keep_hd _ _ _ _ _ | exact keep_02 _ _ _ _ _ _ _ | exact keep_1 _ _ _ _ _ _ _))))
      | ((first | (with_reducible refine wantB_intro (fun hb => ?_) (fun hb => ?_)) | (with_reducible refine condB_intro (fun hb => ?_) (fun hb => ?_))) <;> ((try (have hp := hb; simp only [PmH, beq_iff_eq, beq_eq_false_iff_ne, ne_eq] at hp)); try simp only [hb, Bool.not_true, Bool.not_false]))
      | ((with_reducible refine PW.drawR (id := 5) mixed [] [(0, true), (1, false), (2, false), (3, true)] (by kernel_rfl) (by decide) fun K2 hK2 => ?_))
      | ((with_reducible refine PW.drawR (id := 6) mixed [] [(0, true), (1, true), (2, false), (3, false), (4, true)] (by kernel_rfl) (by decide) fun K2 hK2 => ?_))
      | ((with_reducible refine PW.drawR (id := 7) mixed [] [(0, true), (1, true), (2, true), (3, false), (4, false), (5, true)] (by kernel_rfl) (by decide) fun K2 hK2 => ?_))
      | ((with_reducible refine And.intro ?_ ?_); (focus (first | omega | (simp; done) | assumption)))
      | (simp only [thenP, blockP, Nat.reduceEqDiff, ↓reduceIte]; (try ((repeat (fail_if_success (with_reducible refine hK1 _ ?_)); clear hK1); (with_reducible refine hK1 _ ?_); clear hK1)))
      | (with_reducible omega)
      | (assumption)
      | ((first | ((with_reducible refine opsP_consD (d := 44) fun K3 hK3 => ?_); simp only [wantP, opP, valP, Uy, U0, Ur, Us, List.mapM_cons, List.mapM_nil, Uw, Ux]; (with_reducible refine litX_box ?_)) | ((with_reducible refine opsP_cons fun K3 hK3 => ?_); simp only [wantP, opP, valP, Uy, U0, Ur, Us, List.mapM_cons, List.mapM_nil, Uw, Ux]) | ((with_reducible refine opsO_first (o := ?_) ?_ fun K3 hK3 => ?_); rotate_left 1; (focus (simp only [Uz, Ub, Ua] <;> rfl)); simp only [wantP, firstP, valP, Uy, U0, Ur, Us, List.mapM_cons, List.mapM_nil, Uw, Ux]) | ((with_reducible refine opsO_only (o := ?_) ?_ fun K3 hK3 => ?_); rotate_left 1; (focus (simp only [Uz, Ub, Ua] <;> rfl)); simp only [wantP, opP, valP, Uy, U0, Ur, Us, List.mapM_cons, List.mapM_nil, Uw, Ux]) | (with_reducible refine PW.condM fun X1 Y1 hX1 hY1 => ?_) | skip); simp (disch := omega) only [wantP, wantB_tt, wantB_ff, wantB_tf, wantB_ft, opP, valP, St.eval, St.put, upd_app, iniT_app, avOf, avOf1, nom, cellsA, AV.okv, loadA, lenP, binP, intsP, intP, strP, eqP, nilP, convP, unP, builtinP, bsz, U0, U1, dvEqC, eqAll, cellsV, maplenP, isMapA, isBsl, viewA, U2, U3, U4, U5, U6, slA, putCells, fillA, buildA, elA, dv1, U7, U8, U9, Ua, Ub, List.getElem?_nil, Uc, Ud, Ue, Uf, Ug, Uh, Ui, Uj, Uk, Ul, Um, Un, Uo, Up, Uq, Ur, Us, Ut, Uu, Uv, List.mapM_cons, List.mapM_nil, Uw, Ux, Uy, Uz, V0, V1, V2, V3, V4, V5, Option.bind_eq_bind, Option.pure_def, V6, V7, V8, V9, Va, Vb, Vc, Vd, Ve, Vt, Int.cast_ofNat_Int, ite_same, UU2, UU3, UU4, UU7, UU8, Vq, UU9, UUa, Vr, Vs, PmL, simprocAttr, PmT, retQ, resP, tupA, fg, fgs, condP, condB_t, condB_f, firstP, firstOk, List.mem_range, List.mem_singleton, List.mem_cons]; try (with_reducible (first | exact co_refl _ | exact co_own _ _ _ | exact co_nilsB | exact co_nilsL _ _))))
    all_goals exact ⟨_, _, _, rfl, rfl, rfl, rfl, rfl, rfl, rfl⟩
  · refine PWB.of ?_
    unfold sMark
    clear hTab hIx rTab rIx s2 s3 hCat
    repeat' (first
      | (with_reducible (first
       | refine PW.seq fun K1 hK1 => ?_ | refine PW.region fun K2 hK2 => ?_ | (refine hK3 _ ?_; clear hK3) | (refine opsP_nil ?_; refine hK2 _ ?_; clear hK2) | refine litX_old ?_ | refine litC_data ?_ | (refine Exists.intro _ (Exists.intro _ (And.intro rfl (And.intro rfl (And.intro ?_ ?_)))); focus omega) | (refine hK1 _ ?_; clear hK1) | refine nilC_intro (fun hz => ?_) ?_ | refine PW.block ?_ | refine PW.skip ?_
       | refine PW.exit ?_ | refine PW.ret ?_ | (refine hX1 ?_; clear hX1 hY1; try simp only [hb]) | (refine hY1 ?_; clear hX1 hY1; try simp only [hb]) | exact co_refl _ | exact co_own _ _ _ | exact co_nilsB | exact co_nilsL _ _ | (refine opsO_nil ?_; refine hK2 _ ?_; clear hK2) | (refine keepO_intro ?_ ?_; focus (first | exact .inl (keep_same _ _) | exact .inl (keep_box _ _ _ _) | exact .inl (keep_hd _ _ _ _ _) | exact .inl (keep_02 _ _ _ _ _ _ _) | exact .inl (keep_1 _ _ _ _ _ _ _) | exact .inr ⟨rfl, rfl⟩)) | (refine keepA_intro ?_ ?_; focus (first | exact keep_same _ _ | exact keep_box _ _ _ _ | exact keep_hd _ _ _ _ _ | exact keep_02 _ _ _ _ _ _ _ | exact keep_1 _ _ _ _ _ _ _))))
      | ((first | (with_reducible refine wantB_intro (fun hb => ?_) (fun hb => ?_)) | (with_reducible refine condB_intro (fun hb => ?_) (fun hb => ?_))) <;> ((try (have hp := hb; simp only [PmH, beq_iff_eq, beq_eq_false_iff_ne, ne_eq] at hp)); try simp only [hb, Bool.not_true, Bool.not_false]))
      | ((with_reducible refine cC_pure ?_ (c1) (fun _ => ?_)); (focus ((repeat' constructor); done)))
      | ((with_reducible refine cC_pure ?_ (rCat) (fun _ => ?_)); (focus ((repeat' constructor); done)))
      | ((with_reducible refine cC_pure ?_ (s1) (fun _ => ?_)); (focus ((repeat' constructor); done)))
      | ((with_reducible refine fC_call ?_ (c1) ?_); (focus ((repeat' constructor); done)))
      | ((with_reducible refine fC_call ?_ (rCat) ?_); (focus ((repeat' constructor); done)))
      | ((with_reducible refine fC_call ?_ (s1) ?_); (focus ((repeat' constructor); done)))
      | ((with_reducible refine PW.drawR (id := 5) mixed [] [(0, true), (1, false), (2, false), (3, true)] (by kernel_rfl) (by decide) fun K2 hK2 => ?_))
      | ((with_reducible refine PW.drawR (id := 6) mixed [] [(0, true), (1, true), (2, false), (3, false), (4, true)] (by kernel_rfl) (by decide) fun K2 hK2 => ?_))
      | ((with_reducible refine PW.drawR (id := 7) mixed [] [(0, true), (1, true), (2, true), (3, false), (4, false), (5, true)] (by kernel_rfl) (by decide) fun K2 hK2 => ?_))
      | ((with_reducible refine And.intro ?_ ?_); (focus (first | omega | (simp; done) | assumption)))
      | (simp only [thenP, blockP, Nat.reduceEqDiff, ↓reduceIte]; (try ((repeat (fail_if_success (with_reducible refine hK1 _ ?_)); clear hK1); (with_reducible refine hK1 _ ?_); clear hK1)))
      | (with_reducible omega)
      | (assumption)
      | ((first | ((with_reducible refine opsP_cons fun K3 hK3 => ?_); simp only [wantP, opP, valP, Uy, U0, Ur, Us, List.mapM_cons, List.mapM_nil, Uw, Ux]) | ((with_reducible refine opsO_first (o := ?_) ?_ fun K3 hK3 => ?_); rotate_left 1; (focus (simp only [Uz, Ub, Ua] <;> rfl)); simp only [wantP, firstP, valP, Uy, U0, Ur, Us, List.mapM_cons, List.mapM_nil, Uw, Ux]) | ((with_reducible refine opsO_only (o := ?_) ?_ fun K3 hK3 => ?_); rotate_left 1; (focus (simp only [Uz, Ub, Ua] <;> rfl)); simp only [wantP, opP, valP, Uy, U0, Ur, Us, List.mapM_cons, List.mapM_nil, Uw, Ux]) | (with_reducible refine PW.condM fun X1 Y1 hX1 hY1 => ?_) | skip); simp (disch := omega) only [wantP, wantB_tt, wantB_ff, wantB_tf, wantB_ft, opP, valP, St.eval, St.put, upd_app, iniT_app, avOf, avOf1, nom, cellsA, AV.okv, loadA, lenP, binP, intsP, intP, strP, eqP, nilP, convP, unP, builtinP, bsz, U0, U1, dvEqC, eqAll, cellsV, maplenP, isMapA, isBsl, viewA, U2, U3, U4, U5, U6, slA, putCells, fillA, buildA, elA, dv1, U7, U8, U9, Ua, Ub, List.getElem?_nil, Uc, Ud, Ue, Uf, Ug, Uh, Ui, Uj, Uk, Ul, Um, Un, Uo, Up, Uq, Ur, Us, Ut, Uu, Uv, List.mapM_cons, List.mapM_nil, Uw, Ux, Uy, Uz, V0, V1, V2, V3, V4, V5, Option.bind_eq_bind, Option.pure_def, V6, V7, V8, V9, Va, Vb, Vc, Vd, Ve, Vt, Int.cast_ofNat_Int, ite_same, UU2, UU3, UU4, UU7, UU8, Vq, UU9, UUa, Vr, Vs, PmL, simprocAttr, PmT, retQ, resP, tupA, fg, fgs, condP, condB_t, condB_f, firstP, firstOk, List.mem_range, List.mem_singleton, List.mem_cons]; try (with_reducible (first | exact co_refl _ | exact co_own _ _ _ | exact co_nilsB | exact co_nilsL _ _))))
end PM
open PM
/-- the walk of RowkeySpans -/
theorem spans_walk (n i : Int) (hn : -9223372036854775808 ≤ n ∧ n ≤ 9223372036854775807) (hi : -9223372036854775808 ≤ i ∧ i ≤ 9223372036854775807) (w : World) :
    Calls Tryd.prog 8 #[.int .i64 n, .int .i64 i] w (Ret (.bool true) w) := by
  refine (spans_calls n i (by rw [PM.wf_i64]; simpa using hn) (by rw [PM.wf_i64]; simpa using hi) w).mono fun e w' ⟨v', G', k1, k2, k3⟩ => ⟨?_, k2⟩
  rw [k1, k3.bool]
end Go.Proofs.YtfkemeamimcnjaaDoor
