/- rangemeta: caches: contracts that come out of the abstract, with blocks that are not to be looked at. rangemeta: caches: the calls of the law, at the level of worlds. rangemeta: caches: the script's notes, and what stands between two of them. -/
import Derived.Test.YtbeniogffhihlaaRmOk
import Derived.Test.YtbeniogffhihlaaRmCQ
import Derived.Test.YtbeniogffhihlaaRmLrn2
import Derived.Test.YtbeniogffhihlaaRmGood
set_option linter.unusedVariables false
set_option linter.unusedSimpArgs false
namespace Go.Proofs.Ytbeniogffhihlaa
open Go.RowKit
namespace Rm
open PM
def avG (S : Nat → Prop) : Gh := ⟨fun _ => 0, fun _ => none, fun _ => 0, fun b _ => S b⟩
theorem na_av {G : Gh} {S : Nat → Prop} (h : G.av = (avG S).av) {b o : Nat} : NA G nom b o ↔ S b := by
  rw [na_nom, h]
  rfl
theorem pre_chg {G G' : Gh} {S S' : Nat → Prop} {w w' : World} (hG : G.av = (avG S).av) (hG' : G'.av = (avG S').av) (h : Chg S w w') (hs : ∀ b, S' b → S b ∨ w.heap.size ≤ b) : Pre (NA G nom) w (NA G' nom) w' := by
  refine ⟨fun b o u hu hn => ?_, fun b es c hu hn => ?_⟩
  · have hb := lt_of_cell hu
    rw [na_av hG] at hn
    exact ⟨fun h' => by rw [na_av hG'] at h'; rcases hs b h' with h1 | h1; exact hn h1; omega, (h.cell hb hn).trans hu⟩
  · have hb : b < w.heap.size := (Array.getElem?_eq_some_iff.1 hu).1
    have hn' : ¬ S b := fun h' => hn 0 ((na_av hG).2 h')
    exact ⟨fun o h' => by rw [na_av hG'] at h'; rcases hs b h' with h1 | h1; exact hn' h1; omega, (h.block b hb hn').trans hu⟩
theorem calls_pureG {P : Program} {f : Nat} {fn : Func} {c : Code} (hf : P.funcs[f]? = some fn) (hname : (fn.name == "runtime.NumGoroutine") = false) (hb : fn.body = some c) {args : List AV} {r : AV} {vs : List Value} {w : World} {S : Nat → Prop} (h : Pure P f args r) (hS : ∀ b, S b → b < w.heap.size) (ha : RelAs (avG S) nom w args vs) :
    Calls P f vs.toArray w fun e w' => ∃ v G', e = .returned v ∧ Below w.heap.size w w' ∧ G'.av = (avG S).av ∧ RelA G' nom w' r v := by
  have h1 := h (avG S) w vs (memR_nom fun b o h => hS b h) ha
  have hcall : (callFunc f vs.toArray).run P w = .ok (.enter f vs.toArray) w := by
    have h1 : fn.name ≠ "runtime.NumGoroutine" := by simpa using hname
    simp [callFunc, hf, h1, hb]
  unfold Runs at h1
  rw [hcall] at h1
  exact h1.mono fun e w' ⟨v, h2, G', h3, h4, h5⟩ => ⟨v, G', h2, h4.below, h4.av, h5⟩
/-- ranges, in cells that are none of S -/
def RdA (S : Nat → Prop) (w : World) (v : Value) (L : List RangeD) : Prop := RelA (avG S) nom w (rl (L.map toRg)) v
theorem RdA.step {S S' : Nat → Prop} {w w' : World} {v : Value} {L : List RangeD} (h : RdA S w v L) (hc : Chg S w w') (hs : ∀ b, S' b → S b ∨ w.heap.size ≤ b) : RdA S' w' v L := by
  unfold RdA at h ⊢
  exact relA_d (RelD.mono (pre_chg rfl rfl hc hs) _ _ h.dat)
theorem RdA.of {G : Gh} {S : Nat → Prop} {w : World} {v : Value} {L : List RangeD} (hG : G.av = (avG S).av) (h : RelA G nom w (rl (L.map toRg)) v) : RdA S w v L :=
  relA_d (RelD.mono (Pre.same fun _b _o h' => (na_av hG).2 ((na_av (S := S) rfl).1 h')) _ _ h.dat)
theorem isB_G {S : Nat → Prop} {W0 w : World} {u : Value} {f : List Int} (h : IsB W0 u f) (hb : Below W0.heap.size W0 w) (hS : ∀ b, S b → W0.heap.size ≤ b) : RelA (avG S) nom w (bs f) u := by
  have h1 := relB h
  refine relA_d (RelD.mono (pre_chg (S := fun _ => False) (S' := S) ?_ rfl (.of_ext hb) fun b hb => .inr (hS b hb)) _ _ h1.dat)
  funext b o
  rfl
theorem i64_G {S : Nat → Prop} {w : World} {n : Int} (h : I64 n) : RelA (avG S) nom w (.d (.int .i64 n)) (.int .i64 n) := relA_d (relD_i64 h)
theorem rg_G {S : Nat → Prop} {W0 w : World} {fv tv : Value} {r : RangeD} (hf : IsB W0 fv r.2.1) (ht : IsB W0 tv r.2.2.1) (hI : I64 r.1 ∧ I64 r.2.2.2) (hb : Below W0.heap.size W0 w) (hS : ∀ b, S b → W0.heap.size ≤ b) : RelA (avG S) nom w (toRg r).v (.agg #[.int .i64 r.1, fv, tv, .int .i64 r.2.2.2]) := by
  obtain ⟨fo, fc, rfl, -, -, -⟩ := hf.form
  obtain ⟨to, tc, rfl, -, -, -⟩ := ht.form
  unfold RelA
  refine ⟨_, rfl, .cons (i64_G hI.1) (.cons (isB_G hf hb hS) (.cons (isB_G ht hb hS) (.cons (i64_G hI.2) .nil))), ?_⟩
  intro u hu
  simp only [List.mem_cons, List.not_mem_nil, or_false] at hu
  rcases hu with rfl | rfl | rfl | rfl <;> rfl
/-- lists out of the abstract -/
theorem isL_of {α β : Type} {k : Nat} {R : World → List Value → α → Prop} {en : β → List DV} {to : α → β} {N : No} {w : World} {v : Value} {L : List α} (h : RelD N w (.sl k (encL en (L.map to))) v)
    (he : ∀ (b o : Nat) (x : α), (en (to x)).length = k → RelC N w b o (en (to x)) → ∃ cs, cs.length = k ∧ (∀ j u, cs[j]? = some u → w.cell? ⟨b, o + j, none⟩ = some u) ∧ R w cs x) (hk : 0 < k) : IsL k R w v L := by
  unfold RelD at h
  obtain ⟨ao, cap, h1, h2, h3, h4, h5⟩ := h
  rw [encL_len, List.length_map] at h1 h2 h4 h5
  refine ⟨ao, cap, h1, h2, h3, fun hn => ⟨List.eq_nil_of_length_eq_zero (h4 hn).1, (h4 hn).2⟩, fun i x hx => ?_⟩
  have hlt := (List.getElem?_eq_some_iff.1 hx).1
  cases ao with
  | none => have := (h4 rfl).1; omega
  | some ad =>
    obtain ⟨k1, k2⟩ := h5 ad rfl (by omega)
    obtain ⟨b, o, s⟩ := ad
    simp only at k1 k2
    subst k1
    obtain ⟨k3, k4⟩ := k2.at_ (i := i) (x := en (to x)) (by rw [encL_get, List.getElem?_map, hx]; rfl)
    obtain ⟨cs, c1, c2, c3⟩ := he b (o + i * k) x k3 k4
    have hb : b < w.heap.size := by
      have hc0 := c2 0 cs[0] (List.getElem?_eq_getElem (by omega))
      exact lt_of_cell hc0
    exact ⟨b, o, cs, rfl, hb, c1, c2, c3⟩
theorem dat_int {N : No} {w : World} {n : Int} {v : Value} (h : RelD N w (.int .i64 n) v) : v = .int .i64 n ∧ I64 n := by
  unfold RelD at h
  obtain ⟨h1, h2⟩ := h
  exact ⟨h1, i64_of_wf h2⟩
theorem rgs_of {N : No} {w : World} {v : Value} {L : List RangeD} (h : RelD N w (.sl 4 (encL Rg.c (L.map toRg))) v) : IsRgs w v L := by
  refine isL_of h (fun b o x _ hc => ?_) (by decide)
  simp only [Rg.c, toRg, RelC, and_true] at hc
  obtain ⟨⟨u0, c0, -, r0⟩, ⟨u1, c1, -, r1⟩, ⟨u2, c2, -, r2⟩, ⟨u3, c3, -, r3⟩⟩ := hc
  obtain ⟨rfl, i0⟩ := dat_int r0
  obtain ⟨rfl, i3⟩ := dat_int r3
  refine ⟨[.int .i64 x.1, u1, u2, .int .i64 x.2.2.2], rfl, fun j u hu => ?_, u1, u2, rfl, (RelD.isB r1).1, (RelD.isB r2).1, i0, i3⟩
  match j, hu with
  | 0, hu => simp at hu; subst hu; exact c0
  | 1, hu => simp at hu; subst hu; exact c1
  | 2, hu => simp at hu; subst hu; exact c2
  | 3, hu => simp at hu; subst hu; exact c3
  | j + 4, hu => simp at hu
end Rm
end Go.Proofs.Ytbeniogffhihlaa
namespace Go.Proofs.Ytbeniogffhihlaa
open Go.RowKit
namespace Rm
open PM
theorem relAs_G0 {G : Gh} {m : Mem} {w : World} {a b : AV} {us : List Value} (h : RelAs G m w [a, b] us) : ∃ u v, us = [u, v] ∧ RelA G m w a u ∧ RelA G m w b v := by
  unfold RelAs at h
  obtain ⟨u, us, rfl, h1, h2⟩ := h
  unfold RelAs at h2
  obtain ⟨v, us, rfl, h3, h4⟩ := h2
  unfold RelAs at h4
  subst h4
  exact ⟨u, v, rfl, h1, h3⟩
theorem rel_tup2 {G : Gh} {m : Mem} {w : World} {a b : AV} {v : Value} (h : RelA G m w (.tup [a, b]) v) : ∃ x y, v = .tuple #[x, y] ∧ RelA G m w a x ∧ RelA G m w b y := by
  unfold RelA at h
  obtain ⟨us, rfl, h⟩ := h
  obtain ⟨x, y, rfl, h1, h2⟩ := relAs_G0 h
  exact ⟨x, y, rfl, h1, h2⟩
theorem RdA.isRgs {S : Nat → Prop} {w : World} {v : Value} {L : List RangeD} (h : RdA S w v L) : IsRgs w v L := rgs_of h.dat
theorem RdA.nil {S : Nat → Prop} {w : World} : RdA S w (.slice none 0 0) [] := by
  unfold RdA
  refine relA_d ?_
  unfold RelD
  exact ⟨none, 0, rfl, Nat.le_refl _, Nat.zero_le _, fun _ => ⟨rfl, rfl⟩, fun ad h => by cases h⟩
def RdP (S : Nat → Prop) (b : Bool) (L : List RangeD) (w : World) (e : Ending) (w' : World) : Prop := ∃ lv, e = .returned (.tuple #[lv, .bool b]) ∧ RdA S w' lv L ∧ Below w.heap.size w w'
theorem rdP_of {S : Nat → Prop} {b : Bool} {L : List RangeD} {w : World} {e : Ending} {w' : World} (h : ∃ v G', e = .returned v ∧ Below w.heap.size w w' ∧ G'.av = (avG S).av ∧ RelA G' nom w' (.tup [rl (L.map toRg), .d (.bool b)]) v) : RdP S b L w e w' := by
  obtain ⟨v, G', rfl, h2, h3, h4⟩ := h
  obtain ⟨x, y, rfl, h5, h6⟩ := rel_tup2 h4
  rw [h6.bool]
  exact ⟨x, rfl, RdA.of h3 h5, h2⟩
theorem rLearn_any (S : Nat → Prop) (lv fv tv : Value) (L : List RangeD) (r : RangeD) (W0 w : World) (hv : RdA S w lv L) (hf : IsB W0 fv r.2.1) (ht : IsB W0 tv r.2.2.1) (hI : I64 r.1 ∧ I64 r.2.2.2) (hb : Below W0.heap.size W0 w) (hS : ∀ b, S b → W0.heap.size ≤ b ∧ b < w.heap.size) (hn : L.length ≤ 1000) (hne : ∀ x ∈ L, Ne x.2.1 x.2.2.1) :
    Calls Try.prog 36 #[lv, .agg #[.int .i64 r.1, fv, tv, .int .i64 r.2.2.2]] w (RdP S (learnB L r) (learnL L r) w) := by
  have h1 := pRLearn (L.map toRg) (toRg r) (by rw [List.length_map]; omega)
  rw [learn_same L r hne] at h1
  exact (calls_pureG (vs := [lv, .agg #[.int .i64 r.1, fv, tv, .int .i64 r.2.2.2]]) Try.func36 rfl rfl h1 (fun b h => (hS b h).2) (.cons hv (.cons (rg_G hf ht hI hb fun b h => (hS b h).1) .nil))).mono fun e w' h => rdP_of h
theorem rForget_any (S : Nat → Prop) (lv : Value) (L : List RangeD) (id : Int) (w : World) (hv : RdA S w lv L) (hI : I64 id) (hS : ∀ b, S b → b < w.heap.size) (hn : L.length ≤ 1000) :
    Calls Try.prog 38 #[lv, .int .i64 id] w (RdP S (decide ((L.filter fun x => !(x.1 == id)).length < L.length)) (L.filter fun x => !(x.1 == id)) w) := by
  have h1 := pRForget (L.map toRg) id (by rw [List.length_map]; omega)
  rw [forget_same id L, List.length_map, List.length_map] at h1
  exact (calls_pureG (vs := [lv, .int .i64 id]) Try.func38 rfl rfl h1 hS (.cons hv (.cons (i64_G hI) .nil))).mono fun e w' h => rdP_of h
/-- spans -/
def spR (w : World) (cs : List Value) (x : Spn) : Prop := ∃ fv tv, cs = [fv, tv] ∧ IsB w fv x.1 ∧ IsB w tv x.2
theorem spR_stays : Stays spR := fun _w _w' _cs _x hb ⟨fv, tv, h1, h2, h3⟩ => ⟨fv, tv, h1, h2.below hb, h3.below hb⟩
abbrev IsSps (w : World) (v : Value) (l : List Spn) : Prop := IsL 2 spR w v l
theorem sps_of {N : No} {w : World} {v : Value} {L : List Spn} (h : RelD N w (.sl 2 (encL spC L)) v) : IsSps w v L := by
  have h' : RelD N w (.sl 2 (encL spC (L.map id))) v := by rw [List.map_id]; exact h
  refine isL_of h' (fun b o x _ hc => ?_) (by decide)
  simp only [spC, id, RelC, and_true] at hc
  obtain ⟨⟨u0, c0, -, r0⟩, ⟨u1, c1, -, r1⟩⟩ := hc
  refine ⟨[u0, u1], rfl, fun j u hu => ?_, u0, u1, rfl, (RelD.isB r0).1, (RelD.isB r1).1⟩
  match j, hu with
  | 0, hu => simp at hu; subst hu; exact c0
  | 1, hu => simp at hu; subst hu; exact c1
  | j + 2, hu => simp at hu
def toPt (x : PartD) : Pt := ⟨toRg x.1, x.2.1, x.2.2⟩
theorem cut_same (f t : List Int) : ∀ L : List RangeD, cutS f t (L.map toRg) = (cutL L (f, t)).map toPt
  | [] => rfl
  | x :: l => by
    have ih := cut_same f t l
    unfold cutL at ih ⊢
    rw [List.map_cons, cutS, ih, List.filter_cons]
    have e : spM (toRg x).f (toRg x).t f t = meetB (x.2.1, x.2.2.1) (f, t) := spM_eq _ _ _ _
    rw [e]
    cases hm : meetB (x.2.1, x.2.2.1) (f, t) with
    | false => rfl
    | true =>
      rw [if_pos rfl, if_pos rfl, List.map_cons, List.map_cons, List.cons.injEq]
      refine ⟨?_, rfl⟩
      unfold toPt
      rw [share_eq, shF_eq, shT_eq]
      rfl
theorem pts_of {N : No} {w : World} {v : Value} {L : List PartD} (h : RelD N w (.sl 6 (encL Pt.c (L.map toPt))) v) : IsPts w v L := by
  refine isL_of h (fun b o x _ hc => ?_) (by decide)
  simp only [Pt.c, toPt, toRg, RelC, and_true] at hc
  obtain ⟨⟨u0, c0, -, r0⟩, ⟨u1, c1, -, r1⟩, ⟨u2, c2, -, r2⟩, ⟨u3, c3, -, r3⟩, ⟨u4, c4, -, r4⟩, ⟨u5, c5, -, r5⟩⟩ := hc
  obtain ⟨rfl, i0⟩ := dat_int r0
  obtain ⟨rfl, i3⟩ := dat_int r3
  refine ⟨[.int .i64 x.1.1, u1, u2, .int .i64 x.1.2.2.2, u4, u5], rfl, fun j u hu => ?_, u1, u2, u4, u5, rfl, (RelD.isB r1).1, (RelD.isB r2).1, (RelD.isB r4).1, (RelD.isB r5).1⟩
  match j, hu with
  | 0, hu => simp at hu; subst hu; exact c0
  | 1, hu => simp at hu; subst hu; exact c1
  | 2, hu => simp at hu; subst hu; exact c2
  | 3, hu => simp at hu; subst hu; exact c3
  | 4, hu => simp at hu; subst hu; exact c4
  | 5, hu => simp at hu; subst hu; exact c5
  | j + 6, hu => simp at hu
theorem span_rel {w : World} {fv tv : Value} {f t : List Int} (hf : IsB w fv f) (ht : IsB w tv t) : RelA G0 nom w (.agg [bs f, bs t]) (.agg #[fv, tv]) := by
  obtain ⟨fo, fc, rfl, -, -, -⟩ := hf.form
  obtain ⟨to, tc, rfl, -, -, -⟩ := ht.form
  unfold RelA
  refine ⟨_, rfl, .cons (relB hf) (.cons (relB ht) .nil), ?_⟩
  intro u hu
  simp only [List.mem_cons, List.not_mem_nil, or_false] at hu
  rcases hu with rfl | rfl <;> rfl
/-- what a list of ranges leaves of a span -/
def leftL (L : List RangeD) (f t : List Int) : List Spn := if spE f t = true then [] else lrS t f (L.map toRg)
theorem leftL_len (L : List RangeD) (f t : List Int) : (leftL L f t).length ≤ L.length + 1 := by
  unfold leftL
  split
  · simp
  · have := lrS_len t (L.map toRg) f
    rwa [List.length_map] at this
def LeftP (l : List Spn) (w : World) (e : Ending) (w' : World) : Prop := ∃ v, e = .returned v ∧ IsSps w' v l ∧ Below w.heap.size w w'
theorem rLeft_any (lv fv tv : Value) (L : List RangeD) (f t : List Int) (w : World) (hv : IsRgs w lv L) (hf : IsB w fv f) (ht : IsB w tv t) (hn : L.length ≤ 1000) :
    Calls Try.prog 40 #[lv, .agg #[fv, tv]] w (LeftP (leftL L f t) w) := by
  have h1 := pRLeft (L.map toRg) f t (by rw [List.length_map]; omega)
  refine (calls_of_pure (vs := [lv, .agg #[fv, tv]]) Try.func40 rfl rfl h1 (.cons (rgs_rel hv) (.cons (span_rel hf ht) .nil))).mono fun e w' ⟨v, G', k1, k2, k3, k4⟩ => ⟨v, k1, sps_of k4.dat, k2⟩
def CCutP (ps : List PartD) (l : List Spn) (w : World) (e : Ending) (w' : World) : Prop := ∃ u v, e = .returned (.tuple #[u, v]) ∧ IsPts w' u ps ∧ IsSps w' v l ∧ Below w.heap.size w w'
theorem cCut_any (cb : Nat) (v fv tv : Value) (L : List RangeD) (f t : List Int) (w : World) (hc : w.cell? ⟨cb, 0, none⟩ = some v) (hv : IsRgs w v L) (hf : IsB w fv f) (ht : IsB w tv t) (hn : L.length ≤ 1000) (hL : Ok L)
    (hs : ∀ x ∈ L, x.2.1.length ≤ 140737488355328 ∧ x.2.2.1.length ≤ 140737488355328) (l1 : f.length ≤ 140737488355328) (l2 : t.length ≤ 140737488355328) :
    Calls Try.prog 39 #[.pointer (some ⟨cb, 0, none⟩), .agg #[fv, tv]] w (CCutP (cutL L (f, t)) (leftL L f t) w) := by
  have h1 := pCacheCut (L.map toRg) f t (by rw [List.length_map]; omega) (fun x hx => by obtain ⟨y, hy, rfl⟩ := List.mem_map.1 hx; exact hs y hy) l1 l2
  rw [left_same hL, cut_same] at h1
  have hcp : RelA G0 nom w (.cp [.sl 4 (encL Rg.c (L.map toRg))]) (.pointer (some ⟨cb, 0, none⟩)) := by
    unfold RelA
    refine ⟨cb, 0, rfl, ?_⟩
    unfold RelC
    exact ⟨⟨v, hc, na_G0 rfl, (rgs_rel hv).dat⟩, by unfold RelC; trivial⟩
  refine (calls_of_pure (vs := [.pointer (some ⟨cb, 0, none⟩), .agg #[fv, tv]]) Try.func39 rfl rfl h1 (.cons hcp (.cons (span_rel hf ht) .nil))).mono fun e w' ⟨v, G', k1, k2, k3, k4⟩ => ?_
  obtain ⟨x, y, rfl, h5, h6⟩ := rel_tup2 k4
  exact ⟨x, y, k1, pts_of h5.dat, sps_of h6.dat, k2⟩
end Rm
end Go.Proofs.Ytbeniogffhihlaa
namespace Go.Proofs.Ytbeniogffhihlaa
open Go.RowKit
namespace Rm
open PM
/-- one note of a script: Do, R, Key, P -/
abbrev NtD : Type := Int × RangeD × List Int × SpanD
def ntR (w : World) (cs : List Value) (x : NtD) : Prop := ∃ fv tv kv pv qv, cs = [.int .i64 x.1, .int .i64 x.2.1.1, fv, tv, .int .i64 x.2.1.2.2.2, kv, pv, qv] ∧ (IsB w fv x.2.1.2.1 ∧ IsB w tv x.2.1.2.2.1 ∧ IsB w kv x.2.2.1 ∧ IsB w pv x.2.2.2.1 ∧ IsB w qv x.2.2.2.2) ∧ (I64 x.1 ∧ I64 x.2.1.1 ∧ I64 x.2.1.2.2.2)
theorem ntR_stays : Stays ntR := fun _w _w' _cs _x hb ⟨fv, tv, kv, pv, qv, h1, ⟨h2, h3, h4, h5, h6⟩, h7⟩ => ⟨fv, tv, kv, pv, qv, h1, ⟨h2.below hb, h3.below hb, h4.below hb, h5.below hb, h6.below hb⟩, h7⟩
abbrev IsNt (w : World) (v : Value) (l : List NtD) : Prop := IsL 8 ntR w v l
def ntS (x : NtD) : Prop := x.2.1.2.1.length ≤ 140737488355328 ∧ x.2.1.2.2.1.length ≤ 140737488355328 ∧ x.2.2.2.1.length ≤ 140737488355328 ∧ x.2.2.2.2.length ≤ 140737488355328
theorem IsNt.at8 {w : World} {ao : Option Addr} {n cap k : Nat} {l : List NtD} (h : IsNt w (.slice ao n cap) l) (hk : k < l.length) :
    ∃ b o x fv tv kv pv qv, ao = some ⟨b, o, none⟩ ∧ b < w.heap.size ∧ Hid (l[k]? = some x) ∧ (w.cell? ⟨b, o + k * 8, none⟩ = some (.int .i64 x.1) ∧ w.cell? ⟨b, o + k * 8 + 1, none⟩ = some (.int .i64 x.2.1.1) ∧ w.cell? ⟨b, o + k * 8 + 2, none⟩ = some fv ∧ w.cell? ⟨b, o + k * 8 + 3, none⟩ = some tv ∧ w.cell? ⟨b, o + k * 8 + 4, none⟩ = some (.int .i64 x.2.1.2.2.2) ∧ w.cell? ⟨b, o + k * 8 + 5, none⟩ = some kv ∧ w.cell? ⟨b, o + k * 8 + 6, none⟩ = some pv ∧ w.cell? ⟨b, o + k * 8 + 7, none⟩ = some qv) ∧
      Hid (IsB w fv x.2.1.2.1 ∧ IsB w tv x.2.1.2.2.1 ∧ IsB w kv x.2.2.1 ∧ IsB w pv x.2.2.2.1 ∧ IsB w qv x.2.2.2.2) ∧ Hid (I64 x.1 ∧ I64 x.2.1.1 ∧ I64 x.2.1.2.2.2) := by
  obtain ⟨b, o, x, cs, h1, h2, h3, h4, h5, fv, tv, kv, pv, qv, rfl, h6, h7⟩ := h.at_ hk
  exact ⟨b, o, x, fv, tv, kv, pv, qv, h1, h2, h3, ⟨h5.out 0 _ rfl, h5.out 1 _ rfl, h5.out 2 _ rfl, h5.out 3 _ rfl, h5.out 4 _ rfl, h5.out 5 _ rfl, h5.out 6 _ rfl, h5.out 7 _ rfl⟩, h6, h7⟩
theorem IsSps.at2 {w : World} {ao : Option Addr} {n cap k : Nat} {l : List Spn} (h : IsSps w (.slice ao n cap) l) (hk : k < l.length) :
    ∃ b o x fv tv, ao = some ⟨b, o, none⟩ ∧ b < w.heap.size ∧ Hid (l[k]? = some x) ∧ w.cell? ⟨b, o + k * 2, none⟩ = some fv ∧ w.cell? ⟨b, o + k * 2 + 1, none⟩ = some tv ∧ IsB w fv x.1 ∧ IsB w tv x.2 := by
  obtain ⟨b, o, x, cs, h1, h2, h3, h4, h5, fv, tv, rfl, h6, h7⟩ := h.at_ hk
  exact ⟨b, o, x, fv, tv, h1, h2, h3, h5.out 0 _ rfl, h5.out 1 _ rfl, h6, h7⟩
abbrev ntsTy : Ty := (.sl 144 (.st (.fcons 0 (.int .i64) (.fcons 1 (.st (.fcons 0 (.int .i64) (.fcons 1 (.st (.fcons 0 (.sl 1 (.int .u8)) (.fcons 1 (.sl 1 (.int .u8)) .fnil))) (.fcons 3 (.int .i64) .fnil)))) (.fcons 5 (.sl 1 (.int .u8)) (.fcons 6 (.st (.fcons 0 (.sl 1 (.int .u8)) (.fcons 1 (.sl 1 (.int .u8)) .fnil))) .fnil))))))
theorem ntsMt : Mt Try.prog ntsTy (.inl 67) := ⟨_, Try.underlying67, by kernel_rfl, ⟨by decide, by kernel_rfl⟩, ⟨_, Try.underlying69, by kernel_rfl, ⟨_, rfl, rfl, ⟨Try.underlying3, by kernel_rfl⟩, ⟨_, rfl, rfl, ⟨_, Try.underlying39, by kernel_rfl, ⟨_, rfl, rfl, ⟨Try.underlying3, by kernel_rfl⟩, ⟨_, rfl, rfl, ⟨_, Try.underlying25, by kernel_rfl, ⟨_, rfl, rfl, ⟨_, Try.underlying23, by kernel_rfl, ⟨by decide, by kernel_rfl⟩, ⟨Try.underlying5, by kernel_rfl⟩⟩, ⟨_, rfl, rfl, ⟨_, Try.underlying23, by kernel_rfl, ⟨by decide, by kernel_rfl⟩, ⟨Try.underlying5, by kernel_rfl⟩⟩, trivial⟩⟩⟩, ⟨_, rfl, rfl, ⟨Try.underlying3, by kernel_rfl⟩, trivial⟩⟩⟩⟩, ⟨_, rfl, rfl, ⟨_, Try.underlying23, by kernel_rfl, ⟨by decide, by kernel_rfl⟩, ⟨Try.underlying5, by kernel_rfl⟩⟩, ⟨_, rfl, rfl, ⟨_, Try.underlying25, by kernel_rfl, ⟨_, rfl, rfl, ⟨_, Try.underlying23, by kernel_rfl, ⟨by decide, by kernel_rfl⟩, ⟨Try.underlying5, by kernel_rfl⟩⟩, ⟨_, rfl, rfl, ⟨_, Try.underlying23, by kernel_rfl, ⟨by decide, by kernel_rfl⟩, ⟨Try.underlying5, by kernel_rfl⟩⟩, trivial⟩⟩⟩, trivial⟩⟩⟩⟩⟩⟩
abbrev NxD : Type := Int × RgD × List Int × (List Int × List Int × Unit) × Unit
def toN (x : NxD) : NtD := (x.1, toR x.2.1, x.2.2.1, (x.2.2.2.1.1, x.2.2.2.1.2.1))
theorem nts_of_rd {w : World} {v : Value} {l : List NxD} (h : Rd w ntsTy [v] l) : IsNt w v (l.map toN) := by
  obtain ⟨ao, cap, h1, h2, h3, h4, h5⟩ := Rd.sl' h
  simp only [List.cons.injEq, and_true] at h1
  refine ⟨ao, cap, by rw [List.length_map]; exact h1, by rw [List.length_map]; exact h2, h3, fun hn => ⟨by rw [List.eq_nil_of_length_eq_zero (h4 hn).1]; rfl, (h4 hn).2⟩, fun i x hx => ?_⟩
  rw [List.getElem?_map, Option.map_eq_some_iff] at hx
  obtain ⟨y, hy, rfl⟩ := hx
  obtain ⟨b, o, cs, k1, k2, k3, k4, k5⟩ := h5 i y hy
  have k3' : cs.length = 8 := k3
  match cs, k3' with
  | [c0, c1, c2, c3, c4, c5, c6, c7], _ =>
    obtain ⟨_, q⟩ := Rd.st' k5
    obtain ⟨q0, q⟩ := Rd.fc q
    obtain ⟨q1, q⟩ := Rd.fc q
    obtain ⟨q2, q⟩ := Rd.fc q
    obtain ⟨q3, _⟩ := Rd.fc q
    obtain ⟨_, p⟩ := Rd.st' q1
    obtain ⟨p0, p⟩ := Rd.fc p
    obtain ⟨p1, p⟩ := Rd.fc p
    obtain ⟨p2, _⟩ := Rd.fc p
    obtain ⟨_, s⟩ := Rd.st' p1
    obtain ⟨s0, s⟩ := Rd.fc s
    obtain ⟨s1, _⟩ := Rd.fc s
    obtain ⟨_, u⟩ := Rd.st' q3
    obtain ⟨u0, u⟩ := Rd.fc u
    obtain ⟨u1, _⟩ := Rd.fc u
    obtain ⟨e0, w0⟩ := Rd.int' q0
    obtain ⟨e1, w1⟩ := Rd.int' p0
    obtain ⟨e2, w2⟩ := Rd.int' p2
    have e0' : [c0] = [.int .i64 y.1] := e0
    have e1' : [c1] = [.int .i64 y.2.1.1] := e1
    have e2' : [c4] = [.int .i64 y.2.1.2.2.1] := e2
    cases e0'
    cases e1'
    cases e2'
    exact ⟨b, o, _, k1, k2, rfl, fun j u hu => k4 j u hu, c2, c3, c5, c6, c7, rfl, ⟨isB_of_rd s0, isB_of_rd s1, isB_of_rd q2, isB_of_rd u0, isB_of_rd u1⟩, i64_of_wf w0, i64_of_wf w1, i64_of_wf w2⟩
theorem nts_fits {N : Nat} {l : List NxD} (h : Fits N ntsTy l) : ∀ x ∈ l.map toN, x.2.1.2.1.length ≤ N ∧ x.2.1.2.2.1.length ≤ N ∧ x.2.2.2.1.length ≤ N ∧ x.2.2.2.2.length ≤ N := by
  obtain ⟨_, h2⟩ := Fits.sl' h
  intro x hx
  obtain ⟨y, hy, rfl⟩ := List.mem_map.1 hx
  obtain ⟨i, hi⟩ := List.getElem?_of_mem hy
  obtain ⟨-, k⟩ := Fits.fc (Fits.st' (h2 i y hi))
  obtain ⟨k1, k⟩ := Fits.fc k
  obtain ⟨-, k⟩ := Fits.fc k
  obtain ⟨k3, -⟩ := Fits.fc k
  obtain ⟨-, p⟩ := Fits.fc (Fits.st' k1)
  obtain ⟨p1, -⟩ := Fits.fc p
  obtain ⟨a1, p⟩ := Fits.fc (Fits.st' p1)
  obtain ⟨a2, -⟩ := Fits.fc p
  obtain ⟨b1, q⟩ := Fits.fc (Fits.st' k3)
  obtain ⟨b2, -⟩ := Fits.fc q
  have m1 := (Fits.sl' a1).1
  have m2 := (Fits.sl' a2).1
  have m3 := (Fits.sl' b1).1
  have m4 := (Fits.sl' b2).1
  simp only [Nat.mul_one] at m1 m2 m3 m4
  exact ⟨m1, m2, m3, m4⟩
theorem nts_open {w : World} {v : Value} {l : List NxD} (h : Rd w ntsTy [v] l) (hf : Fits reachBytes ntsTy l) : ∃ l : List NtD, IsNt w v l ∧ ∀ x ∈ l, ntS x :=
  ⟨l.map toN, nts_of_rd h, fun x hx => by obtain ⟨a, b, c, d⟩ := nts_fits hf x hx; simp only [reachBytes] at a b c d; exact ⟨by omega, by omega, by omega, by omega⟩⟩
def hidC (cb : Nat) (v : Value) (b : Nat) : Prop := b = cb ∨ v.ownBlock = some b
/-- a cache and the document's ranges, side by side -/
structure CaI (W0 : World) (B cb : Nat) (v : Value) (wr : World) (lv : Value) (L L2 : List RangeD) (k : Nat) : Prop where
  ok : Ok L
  ok2 : Ok L2
  len : L.length ≤ k
  len2 : L2.length ≤ k
  blk : wr.heap[cb]? = some (.cells #[v] 88 (0, 0))
  own : OwnRgs wr B v L2
  row : RdA (hidC cb v) wr lv L
  bel : Below W0.heap.size W0 wr
  hB : W0.heap.size ≤ B
  hcb : B ≤ cb
  hbs : B ≤ wr.heap.size
section
variable {W0 : World} {B cb : Nat} {v : Value} {wr w1 : World} {lv : Value} {L L2 : List RangeD} {k : Nat}
theorem CaI.lt (h : CaI W0 B cb v wr lv L L2 k) : cb < wr.heap.size := (Array.getElem?_eq_some_iff.1 h.blk).1
theorem CaI.cell (h : CaI W0 B cb v wr lv L L2 k) : wr.cell? ⟨cb, 0, none⟩ = some v := by rw [cell_of_row wr cb 0 _ _ _ h.blk]; rfl
theorem CaI.hidB (h : CaI W0 B cb v wr lv L L2 k) : ∀ b, hidC cb v b → W0.heap.size ≤ b ∧ b < wr.heap.size := fun b hb => by
  rcases hb with rfl | hb
  · exact ⟨Nat.le_trans h.hB h.hcb, h.lt⟩
  · obtain ⟨q1, q2, -⟩ := h.own.typed b hb
    exact ⟨Nat.le_trans h.hB q1, q2⟩
theorem CaI.below (h : CaI W0 B cb v wr lv L L2 k) (hb : Below wr.heap.size wr w1) : CaI W0 B cb v w1 lv L L2 k :=
  ⟨h.ok, h.ok2, h.len, h.len2, (hb.block cb h.lt).trans h.blk, h.own.below hb, h.row.step (.of_ext hb) fun _b hb => .inl hb, bel_call h.bel hb, h.hB, h.hcb, Nat.le_trans h.hbs hb.size⟩
theorem CaI.up (h : CaI W0 B cb v wr lv L L2 k) {k' : Nat} (hk : k ≤ k') : CaI W0 B cb v wr lv L L2 k' := ⟨h.ok, h.ok2, Nat.le_trans h.len hk, Nat.le_trans h.len2 hk, h.blk, h.own, h.row, h.bel, h.hB, h.hcb, h.hbs⟩
theorem CaI.sto {b : Bool} {L' : List RangeD} {e : Ending} (h : CaI W0 B cb v wr lv L L2 k) (hs : StoP B cb v b L' wr e w1) (ho : Ok L') (hl : L'.length ≤ k + 1) : ∃ v', CaI W0 B cb v' w1 lv L L' (k + 1) := by
  obtain ⟨-, v', h1, h2, h3, h4⟩ := hs
  refine ⟨v', h.ok, ho, by have := h.len; omega, hl, h1, h2, h.row.step h3 fun b hb => ?_, h.bel.trans (h3.below (Nat.le_trans h.hB h.hbs) fun b hb hs => ?_), h.hB, h.hcb, Nat.le_trans h.hbs h3.size⟩
  · rcases hb with rfl | hb
    · exact .inl (.inl rfl)
    · rcases h4 with h4 | ⟨b', h5, h6⟩
      · exact .inl (.inr (h4 ▸ hb))
      · rw [h5] at hb
        cases hb
        exact .inr h6
  · have := (h.hidB b hs).1
    omega
theorem CaI.ref {lv2 : Value} (h : CaI W0 B cb v wr lv L L2 k) (hr : RdA (hidC cb v) w1 lv2 L2) (hb : Below wr.heap.size wr w1) : CaI W0 B cb v w1 lv2 L2 L2 k := by
  have h' := h.below hb
  exact ⟨h.ok2, h.ok2, h.len2, h.len2, h'.blk, h'.own, hr, h'.bel, h.hB, h.hcb, h'.hbs⟩
end
theorem CaI.start {W0 w1 : World} (hb : Below W0.heap.size W0 w1) : CaI W0 w1.heap.size w1.heap.size (.slice none 0 0) (freshW w1) (.slice none 0 0) [] [] 0 := by
  have hs : (freshW w1).heap.size = w1.heap.size + 1 := by unfold freshW; simp
  refine ⟨ok_nil, ok_nil, Nat.le_refl _, Nat.le_refl _, heap_alloc_new w1 _, ⟨[], rfl, ⟨rfl, .inl ⟨rfl, rfl⟩⟩, fun s hs => (by simp at hs)⟩, RdA.nil, bel_alloc hb _, hb.size, Nat.le_refl _, by omega⟩
end Rm
end Go.Proofs.Ytbeniogffhihlaa
