/- A range over a function whose rounds are handed values that live in the world: the statement out of the iterator's contract and the body's walk. -/
import Derived.Test.YtgkgfghmpimaoaaMt11
set_option linter.unusedVariables false
set_option linter.unusedSimpArgs false
namespace Go.Proofs.Ytgkgfghmpimaoaa
open Go.RowKit
namespace Mt
/-- how a round's body may end -/
def bodyQ (B : Nat) (I : List En → World → Prop) (Ix : List En → World → Prop) (xs : List En) (W : World) : Exit → Act → World → Prop
  | .normal, _, W' => KeepsFrom B W W' ∧ I xs W'
  | .exit 0, _, W' => KeepsFrom B W W' ∧ Ix xs W'
  | _, _, _ => False
structure Books (B : Nat) (I : List En → World → Prop) : Prop where
  put : ∀ pre W l o o', B ≤ l → W.heap[l]? = some o → o.isCells = false → I pre W → I pre (W.putObj l o')
  below : ∀ pre W W', I pre W → Below W.heap.size W W' → I pre W'
theorem wp_range {P : Program} {g : Operand} {p : Tmp} {assign body : Code} {Q : Exit → Act → World → Prop} {a : Act} {w : World} {gf : Nat} {lb : Array Value}
    (hg : a.eval g = .func (.func gf) #[] lb) (eg : ∀ args w, (callFunc gf args).run P w = .ok (.enter gf args) w) {N : Nat} {all : List En}
    (I Ix : List En → World → Prop) (hI : Books w.heap.size I) (hIx : Books w.heap.size Ix)
    (hseq : ∀ (l : Nat) (J Jx : List En → World → Prop) (W : World), Below w.heap.size w W → (∀ pre W, J pre W → I pre W) → (∀ pre W W', J pre W → Below W.heap.size W W' → J pre W') →
      (∀ pre x Wb W1 v, J pre Wb → Below Wb.heap.size Wb W1 → pre.length < N → HandV W1 Wb.heap.size v x → YieldAt Fence.wide 5 P l #[v] W1 fun e W' => (e = .returned (.bool true) ∧ J (pre ++ [x]) W') ∨ (e = .returned (.bool false) ∧ Jx (pre ++ [x]) W')) →
      J [] W → CallsIn Fence.wide 6 P gf (#[.func (.yield l) #[] #[]] ++ lb) W fun e W' => (∃ v, e = .returned v) ∧ (J all W' ∨ ∃ pre x, pre ++ [x] <+: all ∧ Jx (pre ++ [x]) W'))
    (R : List En → En → World → Act → World → Prop) (hR : ∀ pre x Wb a₁ W l o o', w.heap.size ≤ l → W.heap[l]? = some o → o.isCells = false → R pre x Wb a₁ W → R pre x Wb a₁ (W.putObj l o'))
    (hassign : ∀ (l : Nat) (pre : List En) (x : En) (Wb W : World) (v : Value) (K : Act → World → Prop), I pre Wb → Below Wb.heap.size Wb W → HandV W Wb.heap.size v x →
      (∀ a₁ W₁, KeepsFrom w.heap.size W W₁ → R pre x Wb a₁ W₁ → K a₁ W₁) →
      assign.wpIn (Fence.wide.inRound l) 5 P (Exit.then K (fun _ _ _ => False)) { tmps := a.tmps.setIfInBounds p v, defers := [] } W)
    (hbody : ∀ (l : Nat) (pre : List En) (x : En) (Wb : World) (a₁ : Act) (W : World), I pre Wb → pre.length < N → R pre x Wb a₁ W → body.wpIn (Fence.wide.inRound l) 5 P (bodyQ w.heap.size I Ix (pre ++ [x]) W) a₁ W)
    (h0 : I [] w)
    (hdone : ∀ (D : Nat) (W : World), I all W → W.heap[D]? = some (.deferred (some [])) → w.heap.size ≤ D → Q .normal { a with defers := { target := .collected D, args := #[] } :: a.defers } W)
    (hstop : ∀ (D : Nat) (pre : List En) (W : World), pre <+: all → Ix pre W → W.heap[D]? = some (.deferred (some [])) → w.heap.size ≤ D → (Code.exit 0).wp P Q { a with defers := { target := .collected D, args := #[] } :: a.defers } W) :
    (Code.rangeFunc g #[p] assign body).wp P Q a w := by
  refine (wpIn_wide (n := 7)).1 (wpIn_rangeFunc ?_)
  intro fn hfn
  obtain ⟨rec, hrec⟩ : ∃ rec : LoopState → Option Code → Loop, rec = fun st pe => { state := st, pending := pe, fn, tmps := a.tmps, params := #[p], assign, body, defers := w.heap.size } := ⟨_, rfl⟩
  obtain ⟨W1, hW1⟩ : ∃ W1, (w.alloc (.deferred (some []))).alloc (.loop (rec .ready none)) = W1 := ⟨_, rfl⟩
  have hL1 : W1.heap[w.heap.size + 1]? = some (.loop (rec .ready none)) := by
    rw [← hW1]; have := World.alloc_heap_new (w.alloc (.deferred (some []))) (.loop (rec .ready none)); rwa [World.size_alloc] at this
  have hK1 : W1.heap[w.heap.size]? = some (.deferred (some [])) := by
    rw [← hW1]; exact (Below.heap_alloc _ _ _ (by simp)).trans (World.alloc_heap_new w _)
  have hb1 : Below w.heap.size w W1 := by
    rw [← hW1]; exact ((Below.refl _ w).alloc (Nat.le_refl _) _).alloc (by simp) _
  refine ⟨w.heap.size + 1, [{ target := .collected w.heap.size, args := #[] }], W1, { target := .fn (.func gf) lb, args := #[.func (.yield (w.heap.size + 1)) #[] #[]] }, W1, gf,
    #[.func (.yield (w.heap.size + 1)) #[] #[]] ++ lb, W1, ?_, ?_, fun _ _ => trivial, ?_, fun _ => by omega, ?_⟩
  · rw [← hW1, hrec]; exact run_enterLoop_outer _ _ _ _ _
  · simp only [resolve, hg]
    simp [go_sem]
  · simp [invoke, go_sem, eg]
  · refine (hseq (w.heap.size + 1)
      (fun pre W => I pre W ∧ W.heap[w.heap.size + 1]? = some (.loop (rec .ready none)) ∧ W.heap[w.heap.size]? = some (.deferred (some [])))
      (fun pre W => Ix pre W ∧ W.heap[w.heap.size + 1]? = some (.loop (rec .done (some (.exit 0)))) ∧ W.heap[w.heap.size]? = some (.deferred (some [])))
      W1 hb1 (fun _ _ h => h.1)
      (fun pre W W' ⟨h1, h2, h3⟩ hb => ⟨hI.below _ _ _ h1 hb, (hb.block _ (Array.getElem?_eq_some_iff.1 h2).1).trans h2, (hb.block _ (Array.getElem?_eq_some_iff.1 h3).1).trans h3⟩)
      ?_ ⟨hI.below _ _ _ h0 hb1, hL1, hK1⟩).mono ?_
    · rintro pre x Wb W v ⟨hi, hlb, hkb⟩ hbb hlen hv
      have hl := (hbb.block _ (Array.getElem?_eq_some_iff.1 hlb).1).trans hlb
      have hk := (hbb.block _ (Array.getElem?_eq_some_iff.1 hkb).1).trans hkb
      have hy := run_yield (P := P) (args := #[v]) hl (by rw [hrec]; rfl)
      rw [hrec] at hy
      refine ⟨fn, _, assign, body, hy, roundIn_of_wpIn hfn ?_⟩
      have ha := hassign (w.heap.size + 1) pre x Wb W v (fun a₁ w₁ => ∃ w₂, (Instr.beginRound (w.heap.size + 1)).run P w₁ = .ok () w₂ ∧ body.wpIn (Fence.wide.inRound (w.heap.size + 1)) 5 P (roundPost P (w.heap.size + 1) fun e W' => (e = .returned (.bool true) ∧ I (pre ++ [x]) W' ∧ W'.heap[w.heap.size + 1]? = some (.loop (rec .ready none)) ∧ W'.heap[w.heap.size]? = some (.deferred (some []))) ∨ (e = .returned (.bool false) ∧ Ix (pre ++ [x]) W' ∧ W'.heap[w.heap.size + 1]? = some (.loop (rec .done (some (.exit 0)))) ∧ W'.heap[w.heap.size]? = some (.deferred (some [])))) a₁ w₂) hi hbb hv ?_
      · rw [hrec] at ha ⊢
        simpa using ha
      · intro a₁ Wa hkf hr
        replace hl := hkf.same _ _ (by omega) hl rfl
        replace hk := hkf.same _ _ (Nat.le_refl _) hk rfl
        have hlt := (Array.getElem?_eq_some_iff.1 hl).1
        refine ⟨_, run_beginRound hl (by rw [hrec]), ?_⟩
        have hl2 : (Wa.putObj (w.heap.size + 1) (.loop { rec .ready none with state := .busy })).heap[w.heap.size + 1]? = some (.loop { rec .ready none with state := .busy }) := World.putObj_heap_same hlt
        have hk2 : (Wa.putObj (w.heap.size + 1) (.loop { rec .ready none with state := .busy })).heap[w.heap.size]? = some (.deferred (some [])) := (World.putObj_heap_other (by omega)).trans hk
        refine wpIn_mono (hbody _ pre x Wb a₁ _ hi hlen (hR _ _ _ _ _ _ _ _ (by omega) hl rfl hr)) ?_
        have fin : ∀ (jump : Option Code) (W3 : World), KeepsFrom w.heap.size (Wa.putObj (w.heap.size + 1) (.loop { rec .ready none with state := .busy })) W3 →
            (Instr.endRound (w.heap.size + 1) jump).run P W3 = .ok (.bool jump.isNone) (W3.putObj (w.heap.size + 1) (.loop (rec (if jump.isNone then .ready else .done) jump))) ∧
            W3.heap[w.heap.size + 1]? = some (.loop { rec .ready none with state := .busy }) ∧
            (W3.putObj (w.heap.size + 1) (.loop (rec (if jump.isNone then .ready else .done) jump))).heap[w.heap.size + 1]? = some (.loop (rec (if jump.isNone then .ready else .done) jump)) ∧
            (W3.putObj (w.heap.size + 1) (.loop (rec (if jump.isNone then .ready else .done) jump))).heap[w.heap.size]? = some (.deferred (some [])) := fun jump W3 hk3 => by
          have hl3 := hk3.same _ _ (by omega) hl2 rfl
          have := run_endRound (P := P) jump hl3
          rw [hrec] at this ⊢
          exact ⟨this, by rw [hrec] at hl3; exact hl3, World.putObj_heap_same (Array.getElem?_eq_some_iff.1 hl3).1, (World.putObj_heap_other (by omega)).trans (hk3.same _ _ (Nat.le_refl _) hk2 rfl)⟩
        intro e a3 W3 hp
        cases e with
        | normal =>
          obtain ⟨hk3, hi3⟩ := hp
          obtain ⟨hr1, hl3, hl4, hk4⟩ := fin none W3 hk3
          exact ⟨_, _, hr1, .inl ⟨rfl, hI.put _ _ _ _ _ (by omega) hl3 rfl hi3, hl4, hk4⟩⟩
        | exit id =>
          cases id with
          | zero =>
            obtain ⟨hk3, hi3⟩ := hp
            obtain ⟨hr1, hl3, hl4, hk4⟩ := fin (some (.exit 0)) W3 hk3
            exact ⟨_, _, hr1, .inr ⟨rfl, hIx.put _ _ _ _ _ (by omega) hl3 rfl hi3, hl4, hk4⟩⟩
          | succ i => exact hp.elim
        | ret => exact hp.elim
        | goto t => exact hp.elim
        | panic ch => exact hp.elim
        | outgrown => exact hp.elim
    · rintro e W2 ⟨⟨v, rfl⟩, (⟨hi, hl, hk⟩ | ⟨pre, x, hpre, hi, hl, hk⟩)⟩
      · exact ⟨none, _, by have := run_endLoop (P := P) hl (by rw [hrec]; simp); rw [hrec] at this; exact this, hdone _ _ (hI.put _ _ _ _ _ (by omega) hl rfl hi) ((World.putObj_heap_other (by omega)).trans hk) (Nat.le_refl _)⟩
      · exact ⟨some (.exit 0), _, by have := run_endLoop (P := P) hl (by rw [hrec]; simp); rw [hrec] at this; exact this, wpIn_wide.2 (hstop _ _ _ hpre (hIx.put _ _ _ _ _ (by omega) hl rfl hi) ((World.putObj_heap_other (by omega)).trans hk) (Nat.le_refl _))⟩
end Mt
end Go.Proofs.Ytgkgfghmpimaoaa
