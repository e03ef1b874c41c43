/- sstable: an entry is added (walk). -/
import Derived.Test.YtmojbamloanleaaSs15
import Derived.Test.YtmojbamloanleaaSs4
set_option linter.unusedVariables false
set_option linter.unusedSimpArgs false
namespace Go.Proofs.Ytmojbamloanleaa
open Go.RowKit
namespace Ss
open Mt Codec
section
variable {base wb eb : Nat} {W W' : World} {ov bv iv lv kv vv v : Value} {out body idx last : List Int} {many nb : Nat} {x : En}
theorem Bu.chgB (h : Bu base W wb ov bv iv lv out body idx many nb last) (c : Chg (fun b => b = wb ∨ ov.ownBlock = some b ∨ iv.ownBlock = some b) W W') : Below base W W' :=
  c.below (Nat.le_trans h.bw (Nat.le_of_lt h.lt)) (fun b hb e => by
    rcases e with rfl | e | e
    · exact absurd h.bw (by omega)
    · have := (h.oo.lt b e).1; omega
    · have := (h.oi.lt b e).1; omega)
/-- the builder, and the entry in its box -/
structure AdI (base : Nat) (W : World) (wb eb : Nat) (ov bv iv lv : Value) (out body idx : List Int) (many nb : Nat) (last : List Int) (kv vv : Value) (x : En) : Prop where
  bu : Bu base W wb ov bv iv lv out body idx many nb last
  box : W.heap[eb]? = some (.cells #[kv, .int .u64 x.2.1, .bool x.2.2.1, vv] 46 (0, 0))
  ky : ∀ W', Below base W W' → IsB W' kv x.1
  vl : ∀ W', Below base W W' → IsB W' vv x.2.2.2
theorem AdI.below (h : AdI base W wb eb ov bv iv lv out body idx many nb last kv vv x) (hb : Below W.heap.size W W') : AdI base W' wb eb ov bv iv lv out body idx many nb last kv vv x :=
  have hm := hb.mono (Nat.le_trans h.bu.bw (Nat.le_of_lt h.bu.lt))
  ⟨h.bu.below hb, (hb.block _ (Array.getElem?_eq_some_iff.1 h.box).1).trans h.box, fun W2 k => h.ky W2 (hm.trans k), fun W2 k => h.vl W2 (hm.trans k)⟩
theorem AdI.ne (h : AdI base W wb eb ov bv iv lv out body idx many nb last kv vv x) : eb ≠ wb := by
  rintro rfl
  exact absurd (types_apart h.box h.bu.box) (by decide)
theorem AdI.e0 (h : AdI base W wb eb ov bv iv lv out body idx many nb last kv vv x) : W.cell? ⟨eb, 0, none⟩ = some kv := by rw [cell_of_row _ _ _ _ _ _ h.box]; rfl
theorem AdI.e1 (h : AdI base W wb eb ov bv iv lv out body idx many nb last kv vv x) : W.cell? ⟨eb, 1, none⟩ = some (.int .u64 x.2.1) := by rw [cell_of_row _ _ _ _ _ _ h.box]; rfl
theorem AdI.e2 (h : AdI base W wb eb ov bv iv lv out body idx many nb last kv vv x) : W.cell? ⟨eb, 2, none⟩ = some (.bool x.2.2.1) := by rw [cell_of_row _ _ _ _ _ _ h.box]; rfl
theorem AdI.e3 (h : AdI base W wb eb ov bv iv lv out body idx many nb last kv vv x) : W.cell? ⟨eb, 3, none⟩ = some vv := by rw [cell_of_row _ _ _ _ _ _ h.box]; rfl
theorem AdI.isk (h : AdI base W wb eb ov bv iv lv out body idx many nb last kv vv x) : IsB W kv x.1 := h.ky W (Below.refl _ _)
theorem AdI.isv (h : AdI base W wb eb ov bv iv lv out body idx many nb last kv vv x) : IsB W vv x.2.2.2 := h.vl W (Below.refl _ _)
end
theorem apart_lt {v u : Value} {n : Nat} (hv : ∀ b, v.ownBlock = some b → b < n) (hu : ∀ b, u.ownBlock = some b → n ≤ b) : Apart v u := by
  rcases hb : v.ownBlock with _ | b
  · exact .inl hb
  · refine .inr fun e => ?_
    have h1 := hv b hb
    have h2 := hu b (e.symm.trans hb)
    omega
theorem ownS_nil {base : Nat} {w : World} {e : TypeId} : OwnS w base e (.slice none 0 0) [] := OwnS.of_own (n := 0) (l := []) (World.ownsRow_nil _ _ _ _) Rng.nil
theorem AdI.newP {base wb eb : Nat} {w W W' : World} {ov0 iv0 ov bv iv lv kv vv v5 : Value} {out body body' idx last : List Int} {many nb : Nat} {x : En} (h : AdI base W wb eb ov bv iv lv out body idx many nb last kv vv x) (c : Chg (fun b => b = wb ∨ ov0.ownBlock = some b ∨ iv0.ownBlock = some b) w W)
    (k : ∀ b, b < w.heap.size → (ov.ownBlock = some b → ov0.ownBlock = some b) ∧ (iv.ownBlock = some b → iv0.ownBlock = some b)) (b5 : Below W.heap.size W W') (o5 : OwnS W' W.heap.size 5 v5 body') (n : Nat) (m : Int) (hn : m = (n : Int)) :
    BuP base wb ov0 iv0 out body' idx n nb x.1 w (.returned (.tuple #[])) (((W'.setCell ⟨wb, 1, none⟩ v5).setCell ⟨wb, 5, none⟩ kv).setCell ⟨wb, 3, none⟩ (.int .i64 m)) := by
  subst hn
  have h5 := h.below b5
  have hbw := Nat.le_trans h.bu.bw (Nat.le_of_lt h.bu.lt)
  have h6 := ((h5.bu.set1 (o5.mono hbw) (apart_lt (n := W.heap.size) (fun b e => (h.bu.oo.lt b e).2) (fun b e => (o5.lt b e).1)) (.symm (apart_lt (n := W.heap.size) (fun b e => (h.bu.oi.lt b e).2) (fun b e => (o5.lt b e).1)))).set5 kv (fun W2 k2 => h5.ky W2 ((h5.bu.bel 1 v5).trans k2))).set3 n
  exact ⟨rfl, ⟨_, _, _, _, h6, k⟩, (((c.call b5).set (p := ⟨wb, 1, none⟩) (fun _ => .inl rfl) _).set (p := ⟨wb, 5, none⟩) (fun _ => .inl rfl) _).set (p := ⟨wb, 3, none⟩) (fun _ => .inl rfl) _⟩
theorem AdI.after {base wb eb : Nat} {W W' : World} {ov bv iv lv ov' bv' iv' lv' kv vv : Value} {out body idx last out' body' idx' last' : List Int} {many nb many' nb' : Nat} {x : En} (h : AdI base W wb eb ov bv iv lv out body idx many nb last kv vv x) (c : Chg (fun b => b = wb ∨ ov.ownBlock = some b ∨ iv.ownBlock = some b) W W') (h6 : Bu base W' wb ov' bv' iv' lv' out' body' idx' many' nb' last') :
    AdI base W' wb eb ov' bv' iv' lv' out' body' idx' many' nb' last' kv vv x :=
  have hB := h.bu.chgB c
  ⟨h6, (c.block eb (Array.getElem?_eq_some_iff.1 h.box).1 (fun e => by
    rcases e with e | e | e
    · exact h.ne e
    · obtain ⟨-, -, cur, hc⟩ := own_typed h.bu.oo eb e
      exact absurd (types_apart h.box hc) (by decide)
    · obtain ⟨-, -, cur, hc⟩ := own_typed h.bu.oi eb e
      exact absurd (types_apart h.box hc) (by decide))).trans h.box, fun W2 k2 => h.ky W2 (hB.trans k2), fun W2 k2 => h.vl W2 (hB.trans k2)⟩
/-- the builder with blocks done and one at hand -/
abbrev BuD (base : Nat) (W : World) (wb : Nat) (ov bv iv lv : Value) (p : List (List En) × List En) : Prop := Bu base W wb ov bv iv lv (doneF p.1).1 (bodyF p.2).1 (doneF p.1).2 p.2.length p.1.length (bodyF p.2).2
abbrev BuDP (base wb : Nat) (ov iv : Value) (p : List (List En) × List En) (w : World) (e : Ending) (w' : World) : Prop := BuP base wb ov iv (doneF p.1).1 (bodyF p.2).1 (doneF p.1).2 p.2.length p.1.length (bodyF p.2).2 w e w'
set_option maxRecDepth 100000 in
set_option maxHeartbeats 8000000 in
/-- the end of add: a new block begins -/
theorem add_any (base wb : Nat) (ov bv iv lv kv vv : Value) (out body idx last : List Int) (many nb : Nat) (x : En) (bb : Int) (w : World) (h : Bu base w wb ov bv iv lv out body idx many nb last) (hk : ∀ W', Below base w W' → IsB W' kv x.1) (hv : ∀ W', Below base w W' → IsB W' vv x.2.2.2) (hm : mayB x = true)
    (hout : out.length ≤ 17592186044416) (hbl : body.length ≤ 66000) (hidx : idx.length ≤ 17592186044416) (hmn : many ≤ 65536) (hnb : nb ≤ 65536) (hll : last.length ≤ 256) (hbb : I64 bb) :
    Calls Try.prog 34 #[.pointer (some ⟨wb, 0, none⟩), .agg #[kv, .int .u64 x.2.1, .bool x.2.2.1, vv], .int .i64 bb] w
      (fun e w' => if 0 < many ∧ ((body ++ layS last x).length : Int) ≤ bb then BuP base wb ov iv out (body ++ layS last x) idx (many + 1) nb x.1 w e w'
        else if 0 < many then BuP base wb ov iv (out ++ frameF 68 body) (layS [] x) (idx ++ numN out.length ++ numN (frameF 68 body).length ++ numN many ++ (numN last.length ++ last)) 1 (nb + 1) x.1 w e w'
        else BuP base wb ov iv out (layS [] x) idx 1 nb x.1 w e w') := by
  have H0 : Hid (AdI base (w.alloc (.cells #[kv, .int .u64 x.2.1, .bool x.2.2.1, vv] 46)) wb w.heap.size ov bv iv lv out body idx many nb last kv vv x) := Lib.hid
    (have hb := (Below.refl w.heap.size w).alloc (Nat.le_refl _) (.cells #[kv, .int .u64 x.2.1, .bool x.2.2.1, vv] 46)
     have hm := hb.mono (Nat.le_trans h.bw (Nat.le_of_lt h.lt))
     ⟨h.below hb, alloc_at w _, fun W2 k => hk W2 (hm.trans k), fun W2 k => hv W2 (hm.trans k)⟩)
  have B0 : Hid (Below w.heap.size w (w.alloc (.cells #[kv, .int .u64 x.2.1, .bool x.2.2.1, vv] 46))) := Lib.hid ((Below.refl w.heap.size w).alloc (Nat.le_refl _) _)
  have HLT := Lib.hid h.lt
  obtain ⟨ko, kc, rfl, -, -, -⟩ := H0.out.isk.form
  obtain ⟨vo, vc, rfl, -, -, -⟩ := H0.out.isv.form
  clear h hk hv
  rcases Nat.eq_zero_or_pos many with hm0 | hm0
  · have q1 : ¬ ((0 : Int) < (many : Int)) := by omega
    have c3 := H0.out.bu.c3
    have e0 := H0.out.e0
    have e1 := H0.out.e1
    have e2 := H0.out.e2
    have e3 := H0.out.e3
    have hnw : w.heap.size ≠ wb := H0.out.ne
    have hwn : wb ≠ w.heap.size := hnw.symm
    go_enter Try.func34, Try.ntmps34
    go_wp2_with fail
    go_region_law ((go_simp; go_at_call 63; refine (lay_any base none (.slice none 0 0) (.slice ko x.1.length kc) (.slice vo x.2.2.2.length vc) [] [] x (w.alloc (.cells #[.slice ko x.1.length kc, .int .u64 x.2.1, .bool x.2.2.1, .slice vo x.2.2.2.length vc] 46)).drew ownS_nil (by simp) (ownS_nil (base := base) (e := 5)).isB (H0.out.isk.below (Below.refl _ _).drew) (H0.out.isv.below (Below.refl _ _).drew) hm).mono ?_; unfold LaidP; rintro e w5 ⟨v5, rfl, o5, b5⟩; obtain ⟨v5o, v5c, rfl, -, -, -, -⟩ := o5.form; have B5 := Lib.hid ((Below.refl _ (w.alloc (.cells #[.slice ko x.1.length kc, .int .u64 x.2.1, .bool x.2.2.1, .slice vo x.2.2.2.length vc] 46))).drew.trans b5); have H5 := Lib.hid (H0.out.below B5.out); have f0 : w5.cell? ⟨w.heap.size, 0, none⟩ = some (.slice ko x.1.length kc) := H5.out.e0; have g1 := H5.out.bu.c1; have g3 := H5.out.bu.c3; have g5 := H5.out.bu.c5; have z1 := H5.out.bu.fz 1; have z3 := H5.out.bu.fz 3; have z5 := H5.out.bu.fz 5; have O5 := Lib.hid o5; clear o5 b5))
    all_goals (
      go_wp2_with fail
      go_end0
      exact H0.out.newP ((Chg.refl _ w).call B0.out) (fun _ _ => ⟨id, id⟩) B5.out O5.out 1 1 rfl)
  · have q1 : (0 : Int) < (many : Int) := by omega
    have c1 := H0.out.bu.c1
    have c3 := H0.out.bu.c3
    have c5 := H0.out.bu.c5
    have e0 := H0.out.e0
    have e1 := H0.out.e1
    have e2 := H0.out.e2
    have e3 := H0.out.e3
    have hnw : w.heap.size ≠ wb := H0.out.ne
    have hwn : wb ≠ w.heap.size := hnw.symm
    obtain ⟨bo, bc, rfl, k1, k2, -, -⟩ := H0.out.bu.ob.form
    obtain ⟨lo, lc, rfl, -, -, -⟩ := H0.out.bu.isL.form
    have HLA := Lib.hid (lay_any base bo (.slice lo last.length lc) (.slice ko x.1.length kc) (.slice vo x.2.2.2.length vc) body last x (w.alloc (.cells #[.slice ko x.1.length kc, .int .u64 x.2.1, .bool x.2.2.1, .slice vo x.2.2.2.length vc] 46)).drew ((H0.out.bu.ob.clip).below (Below.refl _ _).drew) (by omega) (H0.out.bu.isL.below (Below.refl _ _).drew) (H0.out.isk.below (Below.refl _ _).drew) (H0.out.isv.below (Below.refl _ _).drew) hm)
    generalize hY : body ++ layS last x = Y at HLA ⊢
    have HY := Lib.hid hY
    generalize hI : idx ++ numN out.length ++ numN (frameF 68 body).length ++ numN many ++ (numN last.length ++ last) = I
    have HIE := Lib.hid hI
    clear hY hI
    go_enter Try.func34, Try.ntmps34
    go_wp2_with fail
    go_region_held3 (fun w' => w'.cell? ⟨wb, 1, none⟩ = some (.slice bo body.length bc) ∧ w'.cell? ⟨wb, 5, none⟩ = some (.slice lo last.length lc) ∧ w'.cell? ⟨w.heap.size, 0, none⟩ = some (.slice ko x.1.length kc) ∧ w'.cell? ⟨w.heap.size, 1, none⟩ = some (.int .u64 x.2.1) ∧ w'.cell? ⟨w.heap.size, 2, none⟩ = some (.bool x.2.2.1) ∧ w'.cell? ⟨w.heap.size, 3, none⟩ = some (.slice vo x.2.2.2.length vc)) (first | exact ⟨by assumption, by assumption, by assumption, by assumption, by assumption, by assumption⟩ | go_keep) (first
      | (go_at_call 38; refine (clip_any _ _ _ _ (by assumption) (by assumption)).mono ?_; rintro e w' ⟨rfl, rfl⟩)
      | (go_at_call 63; refine HLA.out.mono ?_; unfold LaidP; rintro e w5 ⟨v5, rfl, o5, b5⟩; obtain ⟨v5o, v5c, rfl, -, -, -, -⟩ := o5.form; have B5 := Lib.hid ((Below.refl _ (w.alloc (.cells #[.slice ko x.1.length kc, .int .u64 x.2.1, .bool x.2.2.1, .slice vo x.2.2.2.length vc] 46))).drew.trans b5); have H5 := Lib.hid (H0.out.below B5.out); have g1 := H5.out.bu.c1; have g3 := H5.out.bu.c3; have g5 := H5.out.bu.c5; have f0 := H5.out.e0; have f1 := H5.out.e1; have f2 := H5.out.e2; have f3 := H5.out.e3; have z1 := H5.out.bu.fz 1; have z3 := H5.out.bu.fz 3; have z5 := H5.out.bu.fz 5; have O5 := Lib.hid o5; clear o5 b5))
    by_cases hle : (Y.length : Int) ≤ bb
    · have p1 := IntWalk.i64_in ((many : Int) + 1) (by omega)
      go_wp2_with fail
      go_region_law fail
      all_goals (
        go_wp2_with fail
        refine bodyPost_ret (results_none rfl _ _ _) rfl ?_
        exact H0.out.newP ((Chg.refl _ w).call B0.out) (fun _ _ => ⟨id, id⟩) (B5.out.trans (Below.refl _ _).drew) (O5.out.below (Below.refl _ _).drew) (many + 1) _ rfl)
    · have hc := close_any base wb ov (.slice bo body.length bc) iv (.slice lo last.length lc) out body idx last many nb w5 H5.out.bu hout hbl hidx hmn hnb hll
      rw [HIE.out] at hc
      have HC := Lib.hid hc
      clear hc
      go_wp2_with fail
      refine HC.out.mono ?_
      unfold BuP
      rintro e w6 ⟨rfl, ⟨ov6, bv6, iv6, lv6, h6, k6⟩, g6⟩
      have H6 := Lib.hid (H5.out.after g6 h6)
      have C6 := Lib.hid (((Chg.refl (fun b => b = wb ∨ ov.ownBlock = some b ∨ iv.ownBlock = some b) w).call (B0.out.trans (B5.out.mono B0.out.size))).trans (g6.mono fun b _ e => e))
      have K6 := Lib.hid k6
      have S6 := Lib.hid (Nat.le_trans B0.out.size B5.out.size)
      clear h6 k6 g6 g1 g3 g5 f0 f1 f2 f3 z1 z3 z5 HC HLA B5
      have e0 := H6.out.e0
      have e1 := H6.out.e1
      have e2 := H6.out.e2
      have e3 := H6.out.e3
      go_wp2_with fail
      go_region_law ((go_simp; go_at_call 63; refine (lay_any base none (.slice none 0 0) (.slice ko x.1.length kc) (.slice vo x.2.2.2.length vc) [] [] x w6.drew ownS_nil (by simp) (ownS_nil (base := base) (e := 5)).isB (H6.out.isk.below (Below.refl _ _).drew) (H6.out.isv.below (Below.refl _ _).drew) hm).mono ?_; unfold LaidP; rintro e w5 ⟨v5, rfl, o5, b5⟩; obtain ⟨v5o, v5c, rfl, -, -, -, -⟩ := o5.form; have B5 := Lib.hid ((Below.refl _ w6).drew.trans b5); have H5 := Lib.hid (H6.out.below B5.out); have f0 : w5.cell? ⟨w.heap.size, 0, none⟩ = some (.slice ko x.1.length kc) := H5.out.e0; have g1 := H5.out.bu.c1; have g3 := H5.out.bu.c3; have g5 := H5.out.bu.c5; have z1 := H5.out.bu.fz 1; have z3 := H5.out.bu.fz 3; have z5 := H5.out.bu.fz 5; have O5 := Lib.hid o5; clear o5 b5))
      all_goals (
        go_wp2_with fail
        go_end0
        exact H6.out.newP C6.out (fun b hb => K6.out b (Nat.lt_of_lt_of_le hb S6.out)) B5.out O5.out 1 1 rfl)
end Ss
end Go.Proofs.Ytmojbamloanleaa
