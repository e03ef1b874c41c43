/- rangemeta: caches, plain: what a cache may know; the calls of a cache that only tell. -/
import Derived.Test.YtbeniogffhihlaaRmLrn2
import Derived.Test.YtbeniogffhihlaaRmGood
import Derived.Test.YtbeniogffhihlaaRmLoad
set_option linter.unusedVariables false
set_option linter.unusedSimpArgs false
namespace Go.Proofs.Ytbeniogffhihlaa
open Go.RowKit
open PM Rm
theorem spE_eq (f t : List Int) : spE f t = emptyB (f, t) := rfl
theorem shT_eq (t u : List Int) : shT t u = upT t u := by
  unfold shT upT
  have e : (cmpB u t < 0) ↔ lexLt u t = true := by rw [← cmpB_neg]; simp
  by_cases ht : t = []
  · rw [if_pos (.inl (by rw [ht]; rfl)), if_pos ht]
  · rw [if_neg ht]
    have htl : ¬ t.length = 0 := fun h => ht (List.eq_nil_of_length_eq_zero h)
    by_cases hu : u = []
    · rw [if_pos hu, if_neg (by rw [hu]; simp; exact ht)]
    · rw [if_neg hu]
      have hul : 0 < u.length := by cases u <;> simp_all
      by_cases h : lexLt u t = true
      · rw [if_pos (.inr ⟨hul, e.2 h⟩), if_pos h]
      · rw [if_neg (by rintro (h' | ⟨-, h'⟩); exact htl h'; exact h (e.1 h')), if_neg h]
theorem shF_eq (f g : List Int) : shF f g = if lexLt f g = true then g else f := by
  unfold shF
  simp only [cmpB_pos]
theorem spM_eq (f t g u : List Int) : spM f t g u = meetB (f, t) (g, u) := by
  unfold spM meetB
  rw [spE_eq, spE_eq, spE_eq, share_eq, shT_eq, shF_eq]
/-- a span is not empty -/
def Ne (f t : List Int) : Prop := t = [] ∨ lexLt f t = true
theorem ne_iff (f t : List Int) : emptyB (f, t) = false ↔ Ne f t := by
  rw [Bool.eq_false_iff, ne_eq, empty_iff]
  unfold Ne
  by_cases h : t = []
  · simp [h]
  · cases hx : lexLt f t <;> simp [h]
/-- two that do not meet, the first one ahead -/
theorem apart_of {f t g u : List Int} (h1 : Ne f t) (h2 : Ne g u) (hm : meetB (f, t) (g, u) = false) (ho : lexLt g f = false) : t ≠ [] ∧ lexLt g t = false := by
  have hi := meet_iff f t g u h1 ((ne_iff g u).2 h2)
  have hn : ¬ (upT t u = [] ∨ lexLt (if lexLt f g = true then g else f) (upT t u) = true) := fun h => by rw [hi.2 h] at hm; cases hm
  obtain ⟨r, hr⟩ := ranked [f, g, t, u]
  have q1 := fun y => hr f y (by simp)
  have q2 := fun y => hr g y (by simp)
  have q3 := fun y => hr t y (by simp)
  have q4 := fun y => hr u y (by simp)
  have hgf : r f ≤ r g := by
    have : ¬ lexLt g f = true := by rw [ho]; simp
    have := mt (q2 f).2 this
    omega
  have same : ∀ y z, y ∈ [f, g, t, u] → z ∈ [f, g, t, u] → r y = r z → y = z := fun y z hy hz he => by
    rcases lexLt_tri y z with h | h | h
    · have := (hr y z hy).1 h; omega
    · exact h
    · have := (hr z y hz).1 h; omega
  have hmx : (if lexLt f g = true then g else f) = g := by
    split
    · rfl
    · rename_i h
      have := mt (q1 g).2 h
      exact same _ _ (by simp) (by simp) (by omega)
  rw [hmx] at hn
  have hu : u = [] ∨ r g < r u := h2.imp id (q2 u).1
  by_cases ht : t = []
  · exfalso
    apply hn
    have e : upT t u = u := by unfold upT; rw [if_pos ht]
    rw [e]
    exact hu.imp id (q2 u).2
  · refine ⟨ht, ?_⟩
    rw [Bool.eq_false_iff]
    intro h
    apply hn
    right
    have h3 := (q2 t).1 h
    unfold upT
    rw [if_neg ht]
    split
    · exact h
    · split
      · rcases hu with hu | hu
        · exact absurd hu (by assumption)
        · exact (q2 u).2 hu
      · exact h
theorem meet_from {f t u : List Int} (h1 : Ne f t) (h2 : Ne f u) : meetB (f, t) (f, u) = true := by
  cases hm : meetB (f, t) (f, u) with
  | true => rfl
  | false =>
    obtain ⟨h3, h4⟩ := apart_of h1 h2 hm (lexLt_irrefl f)
    rcases h1 with h | h
    · exact absurd h h3
    · rw [h4] at h; cases h
/-- ranges that a cache may know -/
structure Ok (L : List RangeD) : Prop where
  ne : ∀ x ∈ L, Ne x.2.1 x.2.2.1
  ch : L.Pairwise fun x y => x.2.2.1 ≠ [] ∧ lexLt y.2.1 x.2.2.1 = false
  fair : ∀ x ∈ L, Rm.Fair x
theorem lt_of_lt_of_le {a b c : List Int} (h1 : lexLt a b = true) (h2 : lexLt c b = false) : lexLt a c = true := by
  rcases lexLt_tri b c with h | rfl | h
  · exact lexLt_trans h1 h
  · exact h1
  · rw [h2] at h; cases h
theorem Ok.srt {L : List RangeD} (h : Ok L) : Srt L := by
  have : ∀ L : List RangeD, (∀ x ∈ L, Ne x.2.1 x.2.2.1) → (L.Pairwise fun x y => x.2.2.1 ≠ [] ∧ lexLt y.2.1 x.2.2.1 = false) → Srt L := fun L => by
    induction L with
    | nil => intro _ _; exact List.Pairwise.nil
    | cons x l ih =>
      intro h1 h2
      rw [List.pairwise_cons] at h2
      unfold Srt
      rw [List.pairwise_cons]
      refine ⟨fun y hy => ?_, ih (fun z hz => h1 z (by simp [hz])) h2.2⟩
      obtain ⟨h3, h4⟩ := h2.1 y hy
      rcases h1 x (by simp) with h | h
      · exact absurd h h3
      · exact lt_of_lt_of_le h h4
  exact this L h.ne h.ch
theorem Ok.filter {L : List RangeD} (h : Ok L) (p : RangeD → Bool) : Ok (L.filter p) :=
  ⟨fun x hx => h.ne x (List.mem_filter.1 hx).1, h.ch.sublist List.filter_sublist, fun x hx => h.fair x (List.mem_filter.1 hx).1⟩
theorem right_ne {x : RangeD} (h : rightB x = true) : Ne x.2.1 x.2.2.1 ∧ Rm.Fair x := by
  unfold rightB at h
  simp only [Bool.and_eq_true, decide_eq_true_eq, Bool.not_eq_true'] at h
  obtain ⟨⟨⟨⟨⟨⟨a, b⟩, c⟩, d⟩, e⟩, f⟩, g⟩ := h
  exact ⟨(ne_iff _ _).1 g, e, f, c, d⟩
theorem insC_nil (r : RangeD) : insC [] r = [r] := rfl
theorem insC_lt {x r : RangeD} {l : List RangeD} (h : lexLt x.2.1 r.2.1 = true) : insC (x :: l) r = x :: insC l r := by
  unfold insC lowC
  rw [List.takeWhile_cons, if_pos h]
  simp
theorem insC_ge {x r : RangeD} {l : List RangeD} (h : lexLt x.2.1 r.2.1 = false) : insC (x :: l) r = r :: x :: l := by
  unfold insC lowC
  rw [List.takeWhile_cons, if_neg (by rw [h]; simp)]
  simp
theorem mem_insC {x r : RangeD} : ∀ {l : List RangeD}, x ∈ insC l r ↔ x = r ∨ x ∈ l
  | [] => by simp [insC_nil]
  | y :: l => by
    cases h : lexLt y.2.1 r.2.1 with
    | true =>
      rw [insC_lt h, List.mem_cons, mem_insC (l := l), List.mem_cons]
      constructor
      · rintro (h | h | h) <;> simp [h]
      · rintro (h | h | h) <;> simp [h]
    | false =>
      rw [insC_ge h]
      simp
theorem Ok.insert {r : RangeD} (hr : Ne r.2.1 r.2.2.1) (hf : Rm.Fair r) : ∀ {L : List RangeD}, Ok L → (∀ x ∈ L, meetB (x.2.1, x.2.2.1) (r.2.1, r.2.2.1) = false) → Ok (insC L r)
  | [], _, _ => ⟨fun x hx => by rw [insC_nil, List.mem_singleton] at hx; subst hx; exact hr, by rw [insC_nil]; exact List.pairwise_singleton _ _, fun x hx => by rw [insC_nil, List.mem_singleton] at hx; subst hx; exact hf⟩
  | x :: l, h, hm => by
    have hl : Ok l := ⟨fun y hy => h.ne y (by simp [hy]), (List.pairwise_cons.1 h.ch).2, fun y hy => h.fair y (by simp [hy])⟩
    have hx := h.ne x (by simp)
    have hxm := hm x (by simp)
    have hch := (List.pairwise_cons.1 h.ch).1
    refine ⟨fun y hy => ?_, ?_, fun y hy => ?_⟩
    · rcases mem_insC.1 hy with rfl | hy
      · exact hr
      · exact h.ne y hy
    · cases hc : lexLt x.2.1 r.2.1 with
      | true =>
        have ih := Ok.insert hr hf hl fun y hy => hm y (by simp [hy])
        rw [insC_lt hc, List.pairwise_cons]
        refine ⟨fun y hy => ?_, ih.ch⟩
        have hxr : lexLt r.2.1 x.2.1 = false := by
          rw [Bool.eq_false_iff]
          intro h'
          have := lexLt_trans hc h'
          rw [lexLt_irrefl] at this
          cases this
        rcases mem_insC.1 hy with rfl | hy
        · exact apart_of hx hr hxm hxr
        · exact hch y hy
      | false =>
        rw [insC_ge hc, List.pairwise_cons]
        have hsw : ∀ {f t g u : List Int}, Ne f t → Ne g u → meetB (g, u) (f, t) = false → lexLt g f = false → t ≠ [] ∧ lexLt g t = false := fun {f t g u} h1 h2 h3 h4 => by
          refine apart_of h1 h2 ?_ h4
          rw [Bool.eq_false_iff] at h3 ⊢
          intro h5
          apply h3
          rw [meet_iff _ _ _ _ h2 ((ne_iff _ _).2 h1)]
          rw [meet_iff _ _ _ _ h1 ((ne_iff _ _).2 h2)] at h5
          obtain ⟨R, hR⟩ := ranked [f, g, t, u]
          have same : ∀ y z, y ∈ [f, g, t, u] → z ∈ [f, g, t, u] → lexLt y z = false → lexLt z y = false → y = z := fun y z _ _ ha hb => by
            rcases lexLt_tri y z with h | h | h
            · rw [ha] at h; cases h
            · exact h
            · rw [hb] at h; cases h
          have e1 : (if lexLt g f = true then f else g) = (if lexLt f g = true then g else f) := by
            cases ha : lexLt g f <;> cases hb : lexLt f g
            · simp [same g f (by simp) (by simp) ha hb]
            · simp
            · simp
            · have := lexLt_trans ha hb; rw [lexLt_irrefl] at this; cases this
          have e2 : upT u t = upT t u := by
            unfold upT
            by_cases hu : u = [] <;> by_cases ht : t = []
            · rw [if_pos hu, if_pos ht, hu, ht]
            · rw [if_pos hu, if_neg ht, if_pos hu]
            · rw [if_neg hu, if_pos ht, if_pos ht]
            · rw [if_neg hu, if_neg ht, if_neg ht, if_neg hu]
              cases ha : lexLt t u <;> cases hb : lexLt u t
              · simp [same t u (by simp) (by simp) ha hb]
              · simp
              · simp
              · have := lexLt_trans ha hb; rw [lexLt_irrefl] at this; cases this
          rw [e1, e2]
          exact h5
        have hle : ∀ y ∈ x :: l, lexLt y.2.1 r.2.1 = false := fun y hy => by
          rcases List.mem_cons.1 hy with rfl | hy
          · exact hc
          · have := (List.pairwise_cons.1 h.srt).1 y hy
            rw [Bool.eq_false_iff]
            intro h'
            have := lexLt_trans this h'
            rw [hc] at this
            cases this
        exact ⟨fun y hy => hsw hr (h.ne y hy) (hm y hy) (hle y hy), h.ch⟩
    · rcases mem_insC.1 hy with rfl | hy
      · exact hf
      · exact h.fair y hy
theorem learn_ok {L : List RangeD} (r : RangeD) (h : Ok L) : Ok (learnL L r) := by
  unfold learnL
  split
  · rename_i hb
    have hr : rightB r = true := by
      unfold learnB at hb
      simp only [Bool.and_eq_true] at hb
      exact hb.1
    obtain ⟨h1, h2⟩ := right_ne hr
    refine Ok.insert h1 h2 (h.filter _) fun x hx => ?_
    have := (List.mem_filter.1 hx).2
    unfold keepC at this
    simp only [Bool.and_eq_true, Bool.not_eq_true'] at this
    exact this.2
  · exact h
theorem insC_len (l : List RangeD) (r : RangeD) : (insC l r).length = l.length + 1 := by
  have := lowC_le l r
  unfold insC
  simp only [List.length_append, List.length_take, List.length_drop, List.length_cons, List.length_nil]
  omega
theorem learn_len (L : List RangeD) (r : RangeD) : (learnL L r).length ≤ L.length + 1 := by
  unfold learnL
  split
  · rw [insC_len]
    exact Nat.succ_le_succ (List.length_filter_le _ _)
  · omega
end Go.Proofs.Ytbeniogffhihlaa
namespace Go.Proofs.Ytbeniogffhihlaa
open Go.RowKit
namespace Rm
open PM
theorem ok_big {L : List RangeD} (h : Ok L) : ∀ x ∈ L, x.2.1.length ≤ 140737488355328 ∧ x.2.2.1.length ≤ 140737488355328 := fun x hx => by
  obtain ⟨a, b, -⟩ := h.fair x hx
  exact ⟨by omega, by omega⟩
theorem ok_nil : Ok [] := ⟨fun x h => (by simp at h), .nil, fun x h => (by simp at h)⟩
set_option maxRecDepth 100000 in
set_option maxHeartbeats 1000000 in
theorem known_any (cb : Nat) (v : Value) (l : List RangeD) (w : World) (hc : w.cell? ⟨cb, 0, none⟩ = some v) (h : IsRgs w v l) (hl : l.length ≤ 1000) (hs : ∀ x ∈ l, x.2.1.length ≤ 140737488355328 ∧ x.2.2.1.length ≤ 140737488355328) :
    Calls Try.prog 30 #[.pointer (some ⟨cb, 0, none⟩)] w (OwnedP l w) := by
  obtain ⟨ao, cap, rfl, -, -, -⟩ := h.form
  have HC := Lib.hid (owned_any _ l w h hl hs)
  clear h hs
  go_enter Try.func30, Try.ntmps30
  go_wp2_with fail
  refine HC.out.mono ?_
  unfold OwnedP
  rintro e w1 ⟨v1, rfl, h1, h2⟩
  have H1 := Lib.hid h1
  have H2 := Lib.hid h2
  obtain ⟨a1, c1, rfl, -, -, -⟩ := h1.isRgs.form
  clear h1 h2
  go_wp2_with fail
  go_ret
  exact ⟨_, rfl, H1.out, H2.out⟩
set_option maxRecDepth 100000 in
set_option maxHeartbeats 2000000 in
theorem cFind_any (tb : Nat) (v kv : Value) (l : List RangeD) (k : List Int) (w : World) (hc : w.cell? ⟨tb, 0, none⟩ = some v) (htb : tb < w.heap.size) (h : IsRgs w v l) (hk : IsB w kv k) (hs : ∀ x ∈ l, x.2.1.length ≤ 140737488355328 ∧ x.2.2.1.length ≤ 140737488355328) :
    Calls Try.prog 28 #[.pointer (some ⟨tb, 0, none⟩), kv] w (FindP ((findF l k).getD zeroR) (findF l k).isSome w) := by
  obtain ⟨ao, cap, rfl, -, -, -⟩ := h.form
  obtain ⟨ko, kc, rfl, -, -, -⟩ := hk.form
  have HX := Lib.hid (find_any _ _ l k _ (h.alloc rgR_stays (.cells #[.int .i64 0, .slice none 0 0, .slice none 0 0, .int .i64 0] 39)) (hk.alloc (.cells #[.int .i64 0, .slice none 0 0, .slice none 0 0, .int .i64 0] 39)) hs)
  unfold FindP at HX ⊢
  generalize (findF l k).isSome = bb at *
  generalize (findF l k).getD zeroR = r at *
  obtain ⟨id, f, t, gen⟩ := r
  clear h hk hs
  go_enter Try.func28, Try.ntmps28
  go_wp2_with fail
  refine HX.out.mono ?_
  rintro e w1 ⟨v1, v2, rfl, h1, h2, hb⟩
  have H1 := Lib.hid h1
  have H2 := Lib.hid h2
  obtain ⟨fo1, fc1, rfl, -, -, -, -⟩ := h1.form
  obtain ⟨to1, tc1, rfl, -, -, -, -⟩ := h2.form
  replace k0 : w1.cell? ⟨w.heap.size, 0, none⟩ = some (.int .i64 0) := (hb.cell (p := ⟨w.heap.size, 0, none⟩) (by simp <;> omega)).trans (by go_simp); replace k0f : w1.frozen? ⟨w.heap.size, 0, none⟩ = false := (hb.frozen (p := ⟨w.heap.size, 0, none⟩) (by simp <;> omega)).trans (by go_simp); replace k1 : w1.cell? ⟨w.heap.size, 1, none⟩ = some (.slice none 0 0) := (hb.cell (p := ⟨w.heap.size, 1, none⟩) (by simp <;> omega)).trans (by go_simp); replace k1f : w1.frozen? ⟨w.heap.size, 1, none⟩ = false := (hb.frozen (p := ⟨w.heap.size, 1, none⟩) (by simp <;> omega)).trans (by go_simp); replace k2 : w1.cell? ⟨w.heap.size, 2, none⟩ = some (.slice none 0 0) := (hb.cell (p := ⟨w.heap.size, 2, none⟩) (by simp <;> omega)).trans (by go_simp); replace k2f : w1.frozen? ⟨w.heap.size, 2, none⟩ = false := (hb.frozen (p := ⟨w.heap.size, 2, none⟩) (by simp <;> omega)).trans (by go_simp); replace k3 : w1.cell? ⟨w.heap.size, 3, none⟩ = some (.int .i64 0) := (hb.cell (p := ⟨w.heap.size, 3, none⟩) (by simp <;> omega)).trans (by go_simp); replace k3f : w1.frozen? ⟨w.heap.size, 3, none⟩ = false := (hb.frozen (p := ⟨w.heap.size, 3, none⟩) (by simp <;> omega)).trans (by go_simp)
  have GW : Hid (Below w.heap.size w w1) := Lib.hid (bel_call (by repeat' (first | (with_reducible exact Below.refl _ _) | (with_reducible assumption) | (with_reducible refine Below.drew ?_) | (with_reducible refine below_drewN ?_ _) | (with_reducible refine bel_alloc ?_ _) | (with_reducible refine Below.setCell ?_ ?_ _) | (with_reducible refine bel_call ?_ (by assumption)) | (simp <;> omega))) hb)
  have z1 : w.heap.size < w1.heap.size := by have := hb.size; simp at this; omega
  clear h1 h2 hb
  have hs2 := gb_set (gb_set (gb_set (gb_set (gb_refl w1 (some w.heap.size)) (p := ⟨w.heap.size, 0, none⟩) (.inl rfl) (.int .i64 id)) (p := ⟨w.heap.size, 1, none⟩) (.inl rfl) (.slice fo1 f.length fc1)) (p := ⟨w.heap.size, 2, none⟩) (.inl rfl) (.slice to1 t.length tc1)) (p := ⟨w.heap.size, 3, none⟩) (.inl rfl) (.int .i64 gen)
  have HS2 := Lib.hid hs2
  clear hs2
  go_wp2_with fail
  refine bodyPost_ret (v := .tuple #[.agg #[.int .i64 id, .slice fo1 f.length fc1, .slice to1 t.length tc1, .int .i64 gen], .bool bb]) (by simp [results, Try.results28, go_sem]; go_simp) rfl ⟨_, _, rfl, ?_, ?_, ?_⟩
  · exact (ownS_away H1.out HS2.out (by simp)).mono (by simp)
  · exact (ownS_away H2.out HS2.out (by simp)).mono (by simp)
  · exact (((GW.out.setCell (p := ⟨w.heap.size, 0, none⟩) (Nat.le_refl _) _).setCell (p := ⟨w.heap.size, 1, none⟩) (Nat.le_refl _) _).setCell (p := ⟨w.heap.size, 2, none⟩) (Nat.le_refl _) _).setCell (p := ⟨w.heap.size, 3, none⟩) (Nat.le_refl _) _
def freshW (w : World) : World := w.alloc (.cells #[.slice none 0 0] 88)
set_option maxRecDepth 100000 in
set_option maxHeartbeats 1000000 in
theorem fresh_any (w : World) : Calls Try.prog 27 #[] w fun e w' => e = .returned (.pointer (some ⟨w.heap.size, 0, none⟩)) ∧ freshW w = w' := by
  go_enter Try.func27, Try.ntmps27
  go_wp2_with fail
  go_ret
  exact ⟨rfl, rfl⟩
end Rm
end Go.Proofs.Ytbeniogffhihlaa
