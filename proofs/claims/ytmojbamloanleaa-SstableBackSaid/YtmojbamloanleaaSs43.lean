/- A range over a function whose rounds are handed values that live in the world, with states of any kind: the statement out of the iterator's contract and the body's walk. sstable: the entries of a block's frame, apart from one another; look told of them (walks). sstable: what the law's scan keeps while a table is scanned. sstable: Scan, and its iterator (walks). sstable: the law's scan, a range over a function (walk). -/
import Derived.Test.YtmojbamloanleaaSsM3
import Derived.RangeFuncNested
import Derived.RangeFuncBound
import Derived.RangeFuncCalls
import Derived.RangeFuncLeaves
import Derived.WalkKit
import Derived.OwnWalkIn
import Derived.TacticsInMore
import Derived.LoopNIn
import Derived.LoopIn
import Derived.Test.YtmojbamloanleaaSs31
import Derived.Shelf.Abstract
set_option linter.unusedVariables false
set_option linter.unusedSimpArgs false
namespace Go.Proofs.Ytmojbamloanleaa
open Go.RowKit
namespace Ss
open Mt
/-- how a round's body may end -/
def bodyQ {σ : Type} (B : Nat) (I Ix : σ → World → Prop) (s : σ) (W : World) : Exit → Act → World → Prop
  | .normal, _, W' => KeepsFrom B W W' ∧ I s W'
  | .exit 0, _, W' => KeepsFrom B W W' ∧ Ix s W'
  | _, _, _ => False
def Books {σ : Type} (B : Nat) (I : σ → World → Prop) : Prop := ∀ (s : σ) (W : World) (l : Nat) (o o' : Obj), B ≤ l → W.heap[l]? = some o → o.isCells = false → I s W → I s (W.putObj l o')
/-- a step of the iterator's own: books stay -/
def Steps (Stp : World → World → Prop) : Prop := ∀ (W W' : World) (l : Nat) (o : Obj), Stp W W' → W.heap[l]? = some o → o.isCells = false → W'.heap[l]? = some o
theorem wp_range {σ : Type} {P : Program} {g : Operand} {p : Tmp} {assign body : Code} {Q : Exit → Act → World → Prop} {a : Act} {w : World} {gf : Nat} {lb : Array Value}
    (hg : a.eval g = .func (.func gf) #[] lb) (eg : ∀ args w, (callFunc gf args).run P w = .ok (.enter gf args) w)
    (I Ix : σ → World → Prop) (Stp : World → World → Prop) (hStp : Steps Stp) (hBel : ∀ W W', Below W.heap.size W W' → Stp W W') (hI : Books w.heap.size I) (hIx : Books w.heap.size Ix) (Hand : σ → Value → Prop) (nx : σ → σ) (s0 : σ) (Fin Rch : σ → Prop)
    (hIb : ∀ s W W', I s W → Below W.heap.size W W' → I s W')
    (hseq : ∀ (l : Nat) (J Jx : σ → World → Prop) (W : World), Below w.heap.size w W → (∀ s W, J s W → I s W) → (∀ s s' W W', J s W → I s' W' → Stp W W' → J s' W') →
      (∀ s W1 v, J s W1 → Hand s v → YieldAt Fence.wide 5 P l #[v] W1 fun e W' => (e = .returned (.bool true) ∧ J (nx s) W') ∨ (e = .returned (.bool false) ∧ Jx (nx s) W')) →
      J s0 W → CallsIn Fence.wide 6 P gf (#[.func (.yield l) #[] #[]] ++ lb) W fun e W' => (∃ v, e = .returned v) ∧ ((∃ s, Fin s ∧ J s W') ∨ ∃ s, Rch s ∧ Jx (nx s) W'))
    (R : σ → Act → World → Prop) (hR : ∀ s a₁ W l o o', w.heap.size ≤ l → W.heap[l]? = some o → o.isCells = false → R s a₁ W → R s a₁ (W.putObj l o'))
    (hassign : ∀ (l : Nat) (s : σ) (W : World) (v : Value) (K : Act → World → Prop), I s W → Hand s v →
      (∀ a₁ W₁, KeepsFrom w.heap.size W W₁ → R s a₁ W₁ → K a₁ W₁) →
      assign.wpIn (Fence.wide.inRound l) 5 P (Exit.then K (fun _ _ _ => False)) { tmps := a.tmps.setIfInBounds p v, defers := [] } W)
    (hbody : ∀ (l : Nat) (s : σ) (a₁ : Act) (W : World), R s a₁ W → body.wpIn (Fence.wide.inRound l) 5 P (bodyQ w.heap.size I Ix (nx s) W) a₁ W)
    (h0 : I s0 w)
    (hdone : ∀ (D : Nat) (s : σ) (W : World), Fin s → I s W → W.heap[D]? = some (.deferred (some [])) → w.heap.size ≤ D → Q .normal { a with defers := { target := .collected D, args := #[] } :: a.defers } W)
    (hstop : ∀ (D : Nat) (s : σ) (W : World), Rch s → Ix (nx s) W → W.heap[D]? = some (.deferred (some [])) → w.heap.size ≤ D → (Code.exit 0).wp P Q { a with defers := { target := .collected D, args := #[] } :: a.defers } W) :
    (Code.rangeFunc g #[p] assign body).wp P Q a w := by
  refine (wpIn_wide (n := 7)).1 (wpIn_rangeFunc ?_)
  intro fn hfn
  obtain ⟨rec, hrec⟩ : ∃ rec : LoopState → Option Code → Loop, rec = fun st pe => { state := st, pending := pe, fn, tmps := a.tmps, params := #[p], assign, body, defers := w.heap.size } := ⟨_, rfl⟩
  obtain ⟨W1, hW1⟩ : ∃ W1, (w.alloc (.deferred (some []))).alloc (.loop (rec .ready none)) = W1 := ⟨_, rfl⟩
  have hL1 : W1.heap[w.heap.size + 1]? = some (.loop (rec .ready none)) := by
    rw [← hW1]; have := World.alloc_heap_new (w.alloc (.deferred (some []))) (.loop (rec .ready none)); rwa [World.size_alloc] at this
  have hK1 : W1.heap[w.heap.size]? = some (.deferred (some [])) := by
    rw [← hW1]; exact (Below.heap_alloc _ _ _ (by simp)).trans (World.alloc_heap_new w _)
  have hb1 : Below w.heap.size w W1 := by
    rw [← hW1]; exact ((Below.refl _ w).alloc (Nat.le_refl _) _).alloc (by simp) _
  refine ⟨w.heap.size + 1, [{ target := .collected w.heap.size, args := #[] }], W1, { target := .fn (.func gf) lb, args := #[.func (.yield (w.heap.size + 1)) #[] #[]] }, W1, gf,
    #[.func (.yield (w.heap.size + 1)) #[] #[]] ++ lb, W1, ?_, ?_, fun _ _ => trivial, ?_, fun _ => by omega, ?_⟩
  · rw [← hW1, hrec]; exact run_enterLoop_outer _ _ _ _ _
  · simp only [resolve, hg]
    simp [go_sem]
  · simp [invoke, go_sem, eg]
  · refine (hseq (w.heap.size + 1)
      (fun s W => I s W ∧ W.heap[w.heap.size + 1]? = some (.loop (rec .ready none)) ∧ W.heap[w.heap.size]? = some (.deferred (some [])))
      (fun s W => Ix s W ∧ W.heap[w.heap.size + 1]? = some (.loop (rec .done (some (.exit 0)))) ∧ W.heap[w.heap.size]? = some (.deferred (some [])))
      W1 hb1 (fun _ _ h => h.1)
      (fun s s' W W' ⟨h1, h2, h3⟩ hi hst => ⟨hi, hStp _ _ _ _ hst h2 rfl, hStp _ _ _ _ hst h3 rfl⟩)
      ?_ ⟨hIb _ _ _ h0 hb1, hL1, hK1⟩).mono ?_
    · rintro s W v ⟨hi, hl, hk⟩ hv
      have hy := run_yield (P := P) (args := #[v]) hl (by rw [hrec]; rfl)
      rw [hrec] at hy
      refine ⟨fn, _, assign, body, hy, roundIn_of_wpIn hfn ?_⟩
      have ha := hassign (w.heap.size + 1) s W v (fun a₁ w₁ => ∃ w₂, (Instr.beginRound (w.heap.size + 1)).run P w₁ = .ok () w₂ ∧ body.wpIn (Fence.wide.inRound (w.heap.size + 1)) 5 P (roundPost P (w.heap.size + 1) fun e W' => (e = .returned (.bool true) ∧ I (nx s) W' ∧ W'.heap[w.heap.size + 1]? = some (.loop (rec .ready none)) ∧ W'.heap[w.heap.size]? = some (.deferred (some []))) ∨ (e = .returned (.bool false) ∧ Ix (nx s) W' ∧ W'.heap[w.heap.size + 1]? = some (.loop (rec .done (some (.exit 0)))) ∧ W'.heap[w.heap.size]? = some (.deferred (some [])))) a₁ w₂) hi hv ?_
      · rw [hrec] at ha ⊢
        simpa using ha
      · intro a₁ Wa hkf hr
        replace hl := hkf.same _ _ (by omega) hl rfl
        replace hk := hkf.same _ _ (Nat.le_refl _) hk rfl
        have hlt := (Array.getElem?_eq_some_iff.1 hl).1
        refine ⟨_, run_beginRound hl (by rw [hrec]), ?_⟩
        have hl2 : (Wa.putObj (w.heap.size + 1) (.loop { rec .ready none with state := .busy })).heap[w.heap.size + 1]? = some (.loop { rec .ready none with state := .busy }) := World.putObj_heap_same hlt
        have hk2 : (Wa.putObj (w.heap.size + 1) (.loop { rec .ready none with state := .busy })).heap[w.heap.size]? = some (.deferred (some [])) := (World.putObj_heap_other (by omega)).trans hk
        refine wpIn_mono (hbody _ s a₁ _ (hR _ _ _ _ _ _ (by omega) hl rfl hr)) ?_
        have fin : ∀ (jump : Option Code) (W3 : World), KeepsFrom w.heap.size (Wa.putObj (w.heap.size + 1) (.loop { rec .ready none with state := .busy })) W3 →
            (Instr.endRound (w.heap.size + 1) jump).run P W3 = .ok (.bool jump.isNone) (W3.putObj (w.heap.size + 1) (.loop (rec (if jump.isNone then .ready else .done) jump))) ∧
            W3.heap[w.heap.size + 1]? = some (.loop { rec .ready none with state := .busy }) ∧
            (W3.putObj (w.heap.size + 1) (.loop (rec (if jump.isNone then .ready else .done) jump))).heap[w.heap.size + 1]? = some (.loop (rec (if jump.isNone then .ready else .done) jump)) ∧
            (W3.putObj (w.heap.size + 1) (.loop (rec (if jump.isNone then .ready else .done) jump))).heap[w.heap.size]? = some (.deferred (some [])) := fun jump W3 hk3 => by
          have hl3 := hk3.same _ _ (by omega) hl2 rfl
          have := run_endRound (P := P) jump hl3
          rw [hrec] at this ⊢
          exact ⟨this, by rw [hrec] at hl3; exact hl3, World.putObj_heap_same (Array.getElem?_eq_some_iff.1 hl3).1, (World.putObj_heap_other (by omega)).trans (hk3.same _ _ (Nat.le_refl _) hk2 rfl)⟩
        intro e a3 W3 hp
        cases e with
        | normal =>
          obtain ⟨hk3, hi3⟩ := hp
          obtain ⟨hr1, hl3, hl4, hk4⟩ := fin none W3 hk3
          exact ⟨_, _, hr1, .inl ⟨rfl, hI _ _ _ _ _ (by omega) hl3 rfl hi3, hl4, hk4⟩⟩
        | exit id =>
          cases id with
          | zero =>
            obtain ⟨hk3, hi3⟩ := hp
            obtain ⟨hr1, hl3, hl4, hk4⟩ := fin (some (.exit 0)) W3 hk3
            exact ⟨_, _, hr1, .inr ⟨rfl, hIx _ _ _ _ _ (by omega) hl3 rfl hi3, hl4, hk4⟩⟩
          | succ i => exact hp.elim
        | ret => exact hp.elim
        | goto t => exact hp.elim
        | panic ch => exact hp.elim
        | outgrown => exact hp.elim
    · rintro e W2 ⟨⟨v, rfl⟩, (⟨s, hf, hi, hl, hk⟩ | ⟨s, hf, hi, hl, hk⟩)⟩
      · exact ⟨none, _, by have := run_endLoop (P := P) hl (by rw [hrec]; simp); rw [hrec] at this; exact this, hdone _ _ _ hf (hI _ _ _ _ _ (by omega) hl rfl hi) ((World.putObj_heap_other (by omega)).trans hk) (Nat.le_refl _)⟩
      · exact ⟨some (.exit 0), _, by have := run_endLoop (P := P) hl (by rw [hrec]; simp); rw [hrec] at this; exact this, wpIn_wide.2 (hstop _ _ _ hf (hIx _ _ _ _ _ (by omega) hl rfl hi) ((World.putObj_heap_other (by omega)).trans hk) (Nat.le_refl _))⟩
end Ss
end Go.Proofs.Ytmojbamloanleaa
namespace Go.Proofs.Ytmojbamloanleaa
open Go.RowKit
namespace Ss
open Mt Codec
/-- entries whose bytes lie apart -/
def ApE (r s : EV) : Prop := ∀ b, (r.2.1.ownBlock = some b ∨ r.2.2.ownBlock = some b) → ¬ (s.2.1.ownBlock = some b ∨ s.2.2.ownBlock = some b)
def EntriesPA (l : List Int) (w : World) (e : Ending) (w' : World) : Prop :=
  match framR l with
  | none => e = .returned (.tuple #[.slice none 0 0, .int .i64 0, .bool false]) ∧ Below w.heap.size w w'
  | some es => ∃ v, ∃ rs : List EV, e = .returned (.tuple #[v, .int .i64 (takeFrameF l).2.2.1, .bool true]) ∧ rs.map (·.1) = es ∧ w'.ownsRow w.heap.size 46 4 v rs.length (rs.flatMap c4) ∧ (∀ r ∈ rs, GoodE w' w.heap.size r) ∧ rs.Pairwise ApE ∧ Below w.heap.size w w'
theorem ap_push {W w2 : World} {base b2 : Nat} {rs : List EV} {n : EV} (h : rs.Pairwise ApE) (hg : ∀ r ∈ rs, GoodE W base r) (hk : OwnS w2 W.heap.size 5 n.2.1 n.1.1) (hv : OwnS w2 W.heap.size 5 n.2.2 n.1.2.2.2) : (rs ++ [n]).Pairwise ApE := by
  rw [List.pairwise_append]
  refine ⟨h, List.pairwise_singleton _ _, fun r hr s hs b hb hb2 => ?_⟩
  rw [List.mem_singleton] at hs
  subst hs
  obtain ⟨g1, g2, -⟩ := hg r hr
  have l1 : b < W.heap.size := by
    rcases hb with hb | hb
    · exact (g1.lt b hb).2
    · exact (g2.lt b hb).2
  have l2 : W.heap.size ≤ b := by
    rcases hb2 with hb2 | hb2
    · exact (hk.lt b hb2).1
    · exact (hv.lt b hb2).1
  omega
set_option maxRecDepth 100000 in
set_option maxHeartbeats 8000000 in
theorem entriesA_any (fv : Value) (l : List Int) (w : World) (h : IsB w fv l) (hl : l.length ≤ 4194304) (hbl : (takeFrameF l).2.1.length ≤ 4194304) : Calls Try.prog 40 #[fv] w (EntriesPA l w) := by
  obtain ⟨i0, hi0, hz0, hz1, hz2⟩ := info_parts infoEn
  have HI := Lib.hid hi0; have HZ0 := Lib.hid hz0; have HZ1 := Lib.hid hz1; have HZ2 := Lib.hid hz2
  obtain ⟨fo, fc, rfl, -, -, -⟩ := h.form
  have HT := Lib.hid (takeFrame_any _ l w h (by omega))
  have HF : Hid (framR l = if (takeFrameF l).2.2.2 = 0 then bodyR (takeFrameF l).2.1 [] else none) := Lib.hid rfl
  obtain ⟨fk, B, fn, fcode, hT⟩ : ∃ a b c d, takeFrameF l = (a, b, c, d) := ⟨_, _, _, _, rfl⟩
  have HN : Hid ((takeFrameF l).2.2.1 = fn) := Lib.hid (by rw [hT])
  unfold TFPost at HT
  rw [hT] at HT HF hbl
  simp only at HT HF hbl
  clear hT h hi0 hz0 hz1 hz2
  go_enter Try.func40, Try.ntmps40
  go_wp2_with fail
  refine HT.out.mono ?_
  rintro e w1 ⟨v1, rfl, o1, b1⟩
  obtain ⟨bo, bc, rfl, -, -, -, -⟩ := o1.form
  have B1 := Lib.hid b1
  have O1 := Lib.hid o1.isB
  clear o1 b1 HT
  by_cases hc : fcode = 0
  · subst hc
    rw [if_pos rfl] at HF
    go_wp2_with fail
    go_loopw [6, 9, 10] (fun bv ov av wr => ∃ (rs : List EV) (rest ahead : List Int), Hid (IsB w1 bv rest) ∧ Hid (OwnS wr w1.heap.size 5 av ahead) ∧ Hid (EsI w1 wr B ov rs rest ahead) ∧ Hid (rs.Pairwise ApE)) (fun bv _ _ _ => slN bv)
    case atStart => exact ⟨[], B, [], O1, Lib.hid OwnS.none, Lib.hid ⟨World.ownsRow_nil _ _ _ _, fun r hr => (by cases hr), by simp, by simp, by simp, Below.refl _ _⟩, Lib.hid List.Pairwise.nil⟩
    case round =>
      obtain ⟨rs, rest, ahead, hrb, hab, hes, hap⟩ := hrel
      obtain ⟨ro, rc, rfl, -, -, -⟩ := hrb.out.form
      obtain ⟨ao, ac, rfl, -, -, -, -⟩ := hab.out.form
      obtain ⟨oo, oc, rfl, -, -, -, -⟩ := own_form hes.out.row
      have hln := hes.out.len
      have hcn := hes.out.cnt
      by_cases hr : rest = []
      · subst hr
        have HR : Hid (framR l = some (rs.map (·.1))) := Lib.hid (by rw [HF.out, hes.out.red]; simp [bodyR_nil])
        go_wp2_with fail
        refine bodyPost_ret (v := .tuple #[.slice oo rs.length oc, .int .i64 fn, .bool true]) (by first | (simp [results, Try.results40, go_sem]; done) | (simp [results, Try.results40, go_sem]; go_simp)) rfl ?_
        unfold EntriesPA
        rw [HR.out, HN.out]
        exact ⟨_, rs, rfl, rfl, own_mono hes.out.row B1.out.size, fun r hr => ⟨(hes.out.good r hr).1.mono B1.out.size, (hes.out.good r hr).2.1.mono B1.out.size, (hes.out.good r hr).2.2⟩, hap.out, bel_through B1.out hes.out.bel⟩
      · have hp : 0 < rest.length := List.length_pos_iff.2 hr
        have p0 : (0 : Int) < (rest.length : Int) := by omega
        have HRN := Lib.hid hr
        have HEN := Lib.hid (entry_any _ _ rest ahead wr (hrb.out.below hes.out.bel) hab.out.isB (by omega))
        clear hr
        go_wp2_with fail
        refine HEN.out.mono ?_
        intro e w2 hq
        unfold EntryP at hq
        rcases hE : entryF rest ahead with _ | ⟨x, r⟩
        · rw [hE] at hq
          obtain ⟨rfl, hb2⟩ := hq
          have HR : Hid (framR l = none) := Lib.hid (by rw [HF.out, hes.out.red, bodyR_step hrb.out.rng HRN.out, hE]; rfl)
          have G2 : Hid (Below w.heap.size w w2) := Lib.hid (bel_through B1.out (bel_call hes.out.bel hb2))
          clear hb2 hE HEN
          go_wp2_with fail
          refine bodyPost_ret (v := .tuple #[.slice none 0 0, .int .i64 0, .bool false]) (by first | (simp [results, Try.results40, go_sem]; done) | (simp [results, Try.results40, go_sem]; go_simp)) rfl ?_
          unfold EntriesPA
          rw [HR.out]
          exact ⟨rfl, by first | exact G2.out.alloc G2.out.size _ | exact bel_alloc G2.out _⟩
        · rw [hE] at hq
          obtain ⟨kv, vv, rv, rfl, ok, ow, ir, hpr, hu, hb2⟩ := hq
          have HAP : Hid ((rs ++ [(x, kv, vv)]).Pairwise ApE) := Lib.hid (ap_push (b2 := 0) hap.out hes.out.good ok ow)
          have HE := Lib.hid hE
          have HE' := Lib.hid hE
          have hes2 := hes.out.below hb2
          have HS2 := Lib.hid hes2
          have OK := Lib.hid (ok.mono hes.out.bel.size)
          have OW := Lib.hid (ow.mono hes.out.bel.size)
          have IR := Lib.hid (hpr w1 hrb.out)
          have HU := Lib.hid hu
          obtain ⟨ko, kc, rfl, -, -, -, -⟩ := ok.form
          obtain ⟨vo, vc, rfl, -, -, -, -⟩ := ow.form
          obtain ⟨qo, qc, rfl, -, -, -⟩ := ir.form
          clear ok ow ir hpr hu hb2 hE HEN hes2
          have HA := Lib.hid (HS2.out.below ((Below.refl _ w2).alloc (Nat.le_refl _) (.cells #[.slice ko x.1.length kc, .int .u64 x.2.1, .bool x.2.2.1, .slice vo x.2.2.2.length vc] 46)))
          have HWB : Hid (Below w2.heap.size w2 (w2.alloc (.cells #[.slice ko x.1.length kc, .int .u64 x.2.1, .bool x.2.2.1, .slice vo x.2.2.2.length vc] 46))) := Lib.hid ((Below.refl _ w2).alloc (Nat.le_refl _) _)
          have HBX : Hid ((w2.alloc (.cells #[.slice ko x.1.length kc, .int .u64 x.2.1, .bool x.2.2.1, .slice vo x.2.2.2.length vc] 46)).heap[w2.heap.size]? = some (.cells #[.slice ko x.1.length kc, .int .u64 x.2.1, .bool x.2.2.1, .slice vo x.2.2.2.length vc] 46 (0, 0))) := Lib.hid (heap_alloc_new w2 _)
          go_wp2_with (at_builtin; refine wpList_append_cells (w := w2.alloc (.cells #[.slice ko x.1.length kc, .int .u64 x.2.1, .bool x.2.2.1, .slice vo x.2.2.2.length vc] 46)) (base := w1.heap.size) (size := 4) (n := rs.length) (xs := rs.flatMap c4) (.tmp 35) (.tmp 37) _ rfl rfl i0 _ 64 Try.underlying22 HI.out HZ0.out HZ1.out HZ2.out rfl (by decide) [.slice ko x.1.length kc, .int .u64 x.2.1, .bool x.2.2.1, .slice vo x.2.2.2.length vc] rfl (by intro u hu; simp only [List.mem_cons, List.not_mem_nil, or_false] at hu; rcases hu with rfl | rfl | rfl | rfl <;> rfl) rfl (by rw [World.size_alloc]; rfl) HA.out.row (by omega) (by omega) HA.out.bel.size ?_; intro v3 w3 ho3 hg3 hk3; have H3 := Lib.hid (HA.out.push hrb.out.rng HRN.out HE.out (OK.out.below HWB.out) (OW.out.below HWB.out) HU.out ho3 hg3); obtain ⟨vo3, vc3, rfl, -, -, -, -⟩ := own_form ho3; have hx3 := (Chg.of_grown hg3 (S := fun b => (Value.slice oo rs.length oc).ownBlock = some b) (fun _ _ h => h)).block w2.heap.size (by simp) (fun e => by have := (HS2.out.row.lt _ e).2; omega); have e0 : w3.cell? ⟨w2.heap.size, 0, none⟩ = some (.slice ko x.1.length kc) := (cell_of_row _ _ 0 _ _ _ (hx3.trans HBX.out)).trans rfl; have C3 : Hid (Below w2.heap.size w2 w3 ∨ True) := Lib.hid (.inr trivial); clear ho3 hk3 hx3)
          have HLT := Lib.hid (entryF_lt hrb.out.rng HE'.out)
          refine ⟨⟨_, r, x.1, IR, Lib.hid (H3.out.good _ (List.mem_append_right _ (List.mem_singleton.2 rfl))).1, H3, HAP⟩, ?_⟩
          have := HLT.out.1
          simp only [slN]
          omega
  · rw [if_neg hc] at HF
    have q0 : (fcode == 0) = false := beq_eq_false_iff_ne.2 hc
    go_wp2_with fail
    refine bodyPost_ret (v := .tuple #[.slice none 0 0, .int .i64 0, .bool false]) (by first | (simp [results, Try.results40, go_sem]; done) | (simp [results, Try.results40, go_sem]; go_simp)) rfl ?_
    unfold EntriesPA
    rw [HF.out]
    exact ⟨rfl, B1.out⟩
def LookPA (base tb : Nat) (bv blv fv av : Value) (b fil : List Int) (cnt rd : Int) (rows : List BV) (all : List En) (l : List En) (w : World) (e : Ending) (w' : World) : Prop :=
  ∃ v, ∃ rs : List EV, e = .returned v ∧ rs.map (·.1) = l ∧ w'.ownsRow w.heap.size 46 4 v rs.length (rs.flatMap c4) ∧ (∀ r ∈ rs, GoodE w' w.heap.size r) ∧ rs.Pairwise ApE ∧ OpI base w' tb bv blv fv av cnt (rd + 1) b fil rows all ∧ Chg (fun b => b = tb) w w'
set_option maxRecDepth 100000 in
set_option maxHeartbeats 4000000 in
theorem lookA_any (base tb : Nat) (bv blv fv av : Value) (b fil : List Int) (cnt rd : Int) (rows : List BV) (all : List En) (r : BV) (i : Nat) (w : World) (h : OpI base w tb bv blv fv av cnt rd b fil rows all) (hr : rows[i]? = some r) (hk : BlkOk b r.1) (hl : rows.length ≤ 4194304) (hbl : b.length ≤ 4194304) (hb0 : 0 < b.length) (hrd : 0 ≤ rd ∧ rd ≤ 4611686018427387904) :
    Calls Try.prog 51 #[.pointer (some ⟨tb, 0, none⟩), .int .i64 i] w (LookPA base tb bv blv fv av b fil cnt rd rows all r.1.2.2 w) := by
  obtain ⟨k1, k2, k3⟩ := hk
  obtain ⟨F, hF⟩ : ∃ F, r.1.1 = F := ⟨_, rfl⟩
  obtain ⟨T, hT⟩ : ∃ T, r.1.2.1 = T := ⟨_, rfl⟩
  rw [hF, hT] at k1 k3
  rw [hT] at k2
  obtain ⟨vg, vo, bx, hbv, -, -, -, -, -⟩ : ∃ (vg vo bx : Nat), bv = .slice (some ⟨vg, vo, none⟩) b.length bx ∧ b.length ≤ bx ∧ True ∧ True ∧ True ∧ True := by
    obtain ⟨a, c, e1, e2, -⟩ := h.ob.form
    subst e1
    obtain ⟨g', o', x, hao, -⟩ := h.ob.isB.at_ (k := 0) hb0
    subst hao
    exact ⟨g', o', c, rfl, e2, trivial, trivial, trivial, trivial⟩
  subst hbv
  have hbx : b.length ≤ bx := by
    obtain ⟨a, c, e1, e2, -⟩ := h.ob.form
    cases e1
    exact e2
  have HR := h.setB 4 (.int .i64 (rd + 1)) (fv' := fv) (cnt' := cnt) (rd' := rd + 1) (fil' := fil) rfl h.of
  have c4 : w.cell? ⟨tb, 4, none⟩ = some (.int .i64 rd) := (cell_of_row _ _ 4 _ _ _ h.box).trans rfl
  have z4 := h.fz 4
  have p0 := IntWalk.i64_in (rd + 1) (by omega)
  have HCH : Hid (Chg (fun b => b = tb) w (w.setCell ⟨tb, 4, none⟩ (.int .i64 (rd + 1)))) := Lib.hid ((Chg.refl (fun b => b = tb) w).set (p := ⟨tb, 4, none⟩) (fun _ => rfl) _)
  have H0 := Lib.hid h
  clear h
  obtain ⟨W, hW⟩ : ∃ W, w.setCell ⟨tb, 4, none⟩ (.int .i64 (rd + 1)) = W := ⟨_, rfl⟩
  rw [hW] at HR HCH
  have hsz : W.heap.size = w.heap.size := by rw [← hW]; simp
  have HSZ := Lib.hid hsz
  clear hsz
  obtain ⟨lg, lc, rfl, hgl, d0, d1, -, -, -⟩ := HR.row hr
  rw [hF] at d0
  rw [hT] at d1
  have c0 : W.cell? ⟨tb, 0, none⟩ = some (.slice (some ⟨vg, vo, none⟩) b.length bx) := (cell_of_row _ _ 0 _ _ _ HR.box).trans rfl
  have c1 := HR.c1
  have hil := (List.getElem?_eq_some_iff.1 hr).1
  have p1 : (i : Int) < rows.length := by omega
  have p2 : (0 : Int) ≤ (i : Int) := by omega
  have p3 := IntWalk.i64_in (i : Int) (by omega)
  have p4 : (F : Int) ≤ (T : Int) := by omega
  have p5 : (T : Int) ≤ (bx : Int) := by omega
  have p6 : (0 : Int) ≤ (F : Int) := by omega
  have HEN : Hid (Calls Try.prog 40 #[.slice (if bx = F then some ⟨vg, vo, none⟩ else some ⟨vg, vo + F, none⟩) (T - F) (bx - F)] W.drew (EntriesPA ((b.drop F).take (T - F)) W.drew)) := Lib.hid (by
    refine entriesA_any _ _ W.drew ?_ (by rw [List.length_take, List.length_drop]; omega) ?_
    · have h1 : IsB W.drew (.slice (if bx = F then some ⟨vg, vo, none⟩ else some ⟨vg, vo + F, none⟩) (b.length - F) (bx - F)) (b.drop F) := isB_suf (n := F) HR.ob.isB.drew (by omega) rfl rfl (by
        by_cases h8 : bx = F
        · rw [if_pos h8]; exact .inl ⟨h8, rfl⟩
        · rw [if_neg h8]; exact .inr (by rw [Option.map_some, plain_add']))
      exact Codec.IsB.front h1 (T - F) (by rw [List.length_drop]; omega)
    · have := takeFrame_le ((b.drop F).take (T - F))
      rw [List.length_take, List.length_drop] at this
      omega)
  have HK := Lib.hid k3
  have HRR := Lib.hid HR
  by_cases hbF : bx = F
  · exfalso
    have h0 : T - F = 0 := by omega
    rw [h0, List.take_zero] at k3
    cases k3
  rw [if_neg hbF] at HEN
  clear HR hr hF hT k1 k2 k3
  go_enter Try.func51, Try.ntmps51
  go_wp2_with fail
  go_region_held3 (fun w' => w'.cell? ⟨tb, 1, none⟩ = some (.slice (some ⟨lg, 0, none⟩) rows.length lc) ∧ w'.cell? ⟨tb, 0, none⟩ = some (.slice (some ⟨vg, vo, none⟩) b.length bx) ∧ w'.cell? ⟨lg, i * 5, none⟩ = some (.int .i64 F) ∧ w'.cell? ⟨lg, i * 5 + 1, none⟩ = some (.int .i64 T)) (first | exact ⟨by assumption, by assumption, by assumption, by assumption⟩ | go_keep) ((go_at_call 40; have hc := HEN.out; (with_reducible refine Calls.mono hc ?_); clear hc; intro e w3 hq; unfold EntriesPA at hq; rw [HK.out] at hq; obtain ⟨v3, rs, rfl, m3, o3, q3, a3, g3⟩ := hq; have O3 : Hid (rs.map (·.1) = r.1.2.2 ∧ w3.ownsRow w.heap.size 46 4 v3 rs.length (rs.flatMap Mt.c4) ∧ (∀ r ∈ rs, GoodE w3 w.heap.size r) ∧ rs.Pairwise ApE) := Lib.hid ⟨m3, own_mono o3 (Nat.le_of_eq HSZ.out.symm), fun r hr => ⟨(q3 r hr).1.mono (Nat.le_of_eq HSZ.out.symm), (q3 r hr).2.1.mono (Nat.le_of_eq HSZ.out.symm), (q3 r hr).2.2⟩, a3⟩; have H3 := Lib.hid (HRR.out.below ((Below.refl _ W).drew.trans g3)); have C3 : Hid (Chg (fun b => b = tb) w w3) := Lib.hid (HCH.out.call ((Below.refl _ W).drew.trans g3)); have e1 := H3.out.c1; have e0 : w3.cell? ⟨tb, 0, none⟩ = some (.slice (some ⟨vg, vo, none⟩) b.length bx) := (cell_of_row _ _ 0 _ _ _ H3.out.box).trans rfl; have hg3 : Below W.heap.size W w3 := (Below.refl _ W).drew.trans g3; have f0 := (hg3.cell (p := ⟨lg, i * 5, none⟩) hgl).trans d0; have f1 := (hg3.cell (p := ⟨lg, i * 5 + 1, none⟩) hgl).trans d1; clear o3 g3 hg3))
  all_goals (
    go_wp2_with fail
    go_ret
    exact ⟨_, _, rfl, O3.out.1, O3.out.2.1, O3.out.2.2.1, O3.out.2.2.2, H3.out, C3.out⟩)
end Ss
end Go.Proofs.Ytmojbamloanleaa
namespace Go.Proofs.Ytmojbamloanleaa
open Go.RowKit
namespace Ss
open Mt Codec
/-- the entries of a block that a scan tells -/
def filtF (from_ : List Int) (l : List En) : List En := l.filter fun e => decide (0 ≤ cmpB e.1 from_)
/-- what a scan tells, and how many blocks it has looked into by then -/
def ylF (from_ : List Int) : Nat → List Blk → List (En × Nat)
  | _, [] => []
  | n, p :: r => (filtF from_ p.2.2).map (fun e => (e, n + 1)) ++ ylF from_ (n + 1) r
structure ScS where
  pre : List En
  n : Nat
  rv : Value
  rs : List EV
  j : Nat
def ScS.nx (s : ScS) : ScS := ⟨s.pre ++ [((s.rs[s.j]?).map (·.1)).getD zeroE], s.n, s.rv, s.rs, s.j + 1⟩
def ScS.skip (s : ScS) : ScS := ⟨s.pre, s.n, s.rv, s.rs, s.j + 1⟩
def HandS (s : ScS) (v : Value) : Prop := ∃ r : EV, s.rs[s.j]? = some r ∧ v = .agg #[r.2.1, .int .u64 r.1.2.1, .bool r.1.2.2.1, r.2.2]
structure ScO (w W : World) (ob : Nat) (s : ScS) (v : Value) (os : List EV) : Prop where
  bx : W.heap[ob]? = some (.cells #[v] 22 (0, 0))
  map : os.map (·.1) = s.pre
  row : W.ownsRow w.heap.size 46 4 v os.length (os.flatMap c4)
  good : ∀ o ∈ os, GoodE W w.heap.size o
  ar : Apart v s.rv
  ap : ∀ o ∈ os, ∀ r ∈ s.rs.drop s.j, ApE r o
structure ScJ (w W : World) (tb ob : Nat) (bv blv fv : Value) (cnt rd : Int) (s : ScS) : Prop where
  chg : Chg (fun b => b = tb ∨ b = ob) w W
  tbx : W.heap[tb]? = some (.cells #[bv, blv, fv, .int .i64 cnt, .int .i64 (rd + s.n)] 74 (0, 0))
  lt : tb < w.heap.size ∧ ob < w.heap.size
  out : ∃ v os, ScO w W ob s v os
  row : W.ownsRow w.heap.size 46 4 s.rv s.rs.length (s.rs.flatMap c4)
  good : ∀ r ∈ s.rs.drop s.j, GoodE W w.heap.size r
  ap : s.rs.Pairwise ApE
  sh : ∀ r ∈ s.rs.drop s.j, Short r.1
/-- only blocks of cells turn -/
def StpC (W W' : World) : Prop := Chg (fun b => ∃ cur t f, W.heap[b]? = some (.cells cur t f)) W W'
theorem stpC_steps : Steps StpC := fun W W' l o c h ho => by
  refine (c.block l (Array.getElem?_eq_some_iff.1 h).1 (fun ⟨cur, t, f, e⟩ => ?_)).trans h
  rw [h] at e
  cases e
  cases ho
theorem stpC_below {W W' : World} (h : Below W.heap.size W W') : StpC W W' := Chg.of_ext h
theorem stpC_tb {W W' : World} {tb : Nat} {cur : Array Value} {t : TypeId} {f : Nat × Nat} (h : W.heap[tb]? = some (.cells cur t f)) (c : Chg (fun b => b = tb) W W') : StpC W W' := c.mono (fun b _ e => by subst e; exact ⟨_, _, _, h⟩)
theorem OpI.away' {S : Nat → Prop} {base tb : Nat} {w W : World} {bv blv fv av : Value} {b fil : List Int} {cnt rd rd' : Int} {rows : List BV} {all : List En} (h : OpI base w tb bv blv fv av cnt rd b fil rows all) (c : Chg S w W) (hS : ∀ b cur t, w.heap[b]? = some (.cells cur t (0, 0)) → (t = 5 ∨ t = 46 ∨ t = 78) → ¬ S b)
    (hx : W.heap[tb]? = some (.cells #[bv, blv, fv, .int .i64 cnt, .int .i64 rd'] 74 (0, 0))) : OpI base W tb bv blv fv av cnt rd' b fil rows all := by
  refine ⟨hx, h.bw, c.ownS h.ob (fun b hb => ?_), c.ownS h.of (fun b hb => ?_), c.own h.ol (fun b hb => ?_), fun r hr => (h.gb r hr).chg c (fun b c hb => hS b _ _ hb (.inl rfl)), h.oa.chg c (fun b c t hb ht => hS b _ _ hb (ht.elim .inl (fun e => .inr (.inl e))))⟩
  · obtain ⟨c, hc⟩ := h.ob.typed b hb; exact hS b _ _ hc (.inl rfl)
  · obtain ⟨c, hc⟩ := h.of.typed b hb; exact hS b _ _ hc (.inl rfl)
  · obtain ⟨-, -, c, hc⟩ := own_typed h.ol b hb; exact hS b _ _ hc (.inr (.inr rfl))
section
variable {w W W' : World} {tb ob : Nat} {bv blv fv : Value} {cnt rd : Int} {s : ScS}
theorem ScO.chg {S : Nat → Prop} {v : Value} {os : List EV} (h : ScO w W ob s v os) (c : Chg S W W') (hS : ∀ b cur t, W.heap[b]? = some (.cells cur t (0, 0)) → (t = 5 ∨ t = 46 ∨ t = 22) → ¬ S b) : ScO w W' ob s v os :=
  ⟨(c.block ob (Array.getElem?_eq_some_iff.1 h.bx).1 (hS _ _ _ h.bx (.inr (.inr rfl)))).trans h.bx, h.map, c.own h.row (fun b hb => by obtain ⟨-, -, cu, hc⟩ := own_typed h.row b hb; exact hS b _ _ hc (.inr (.inl rfl))), fun o ho => (h.good o ho).chg c (fun b cu hb => hS b _ _ hb (.inl rfl)), h.ar, h.ap⟩
/-- a call that turns no block that was there -/
theorem ScJ.below (h : ScJ w W tb ob bv blv fv cnt rd s) (hb : Below W.heap.size W W') : ScJ w W' tb ob bv blv fv cnt rd s := by
  obtain ⟨v, os, ho⟩ := h.out
  have sz := h.chg.size
  exact ⟨h.chg.call hb, (hb.block _ (by have := h.lt.1; omega)).trans h.tbx, h.lt, ⟨v, os, ho.chg (S := fun _ => False) (Chg.of_ext hb) (fun _ _ _ _ _ h => h)⟩, own_below h.row hb, fun r hr => (h.good r hr).below hb, h.ap, h.sh⟩
theorem ScJ.skip (h : ScJ w W tb ob bv blv fv cnt rd s) : ScJ w W tb ob bv blv fv cnt rd s.skip := by
  obtain ⟨v, os, ho⟩ := h.out
  have sub : ∀ r ∈ s.rs.drop (s.j + 1), r ∈ s.rs.drop s.j := fun r hr => by
    rw [← List.drop_drop] at hr
    exact List.mem_of_mem_drop hr
  exact ⟨h.chg, h.tbx, h.lt, ⟨v, os, ho.bx, ho.map, ho.row, ho.good, ho.ar, fun o h1 r h2 => ho.ap o h1 r (sub r h2)⟩, h.row, fun r hr => h.good r (sub r hr), h.ap, fun r hr => h.sh r (sub r hr)⟩
/-- a block is looked into -/
theorem ScJ.look (h : ScJ w W tb ob bv blv fv cnt rd s) {v : Value} {rs : List EV} (ho : W'.ownsRow W.heap.size 46 4 v rs.length (rs.flatMap c4)) (hg : ∀ r ∈ rs, GoodE W' W.heap.size r) (ha : rs.Pairwise ApE) (hs : ∀ r ∈ rs, Short r.1)
    (hx : W'.heap[tb]? = some (.cells #[bv, blv, fv, .int .i64 cnt, .int .i64 (rd + s.n + 1)] 74 (0, 0))) (c : Chg (fun b => b = tb) W W') : ScJ w W' tb ob bv blv fv cnt rd ⟨s.pre, s.n + 1, v, rs, 0⟩ := by
  obtain ⟨u, os, h1⟩ := h.out
  have sz := h.chg.size
  have h2 := h1.chg c (fun b cu t hb ht e => by
    subst e
    have := types_apart hb h.tbx
    rcases ht with rfl | rfl | rfl <;> exact absurd this (by decide))
  refine ⟨h.chg.trans (c.mono (fun b _ e => .inl e)), by rw [hx]; simp only [Int.natCast_add, Int.add_assoc]; rfl, h.lt, ⟨u, os, h2.bx, h2.map, h2.row, h2.good, ?_, fun o hos r hr b hb hb2 => ?_⟩, own_mono ho sz, fun r hr => ?_, ha, fun r hr => hs r (List.mem_of_mem_drop hr)⟩
  · by_cases hu : u.ownBlock = none
    · exact .inl hu
    · refine .inr (fun e => ?_)
      obtain ⟨b, hb⟩ := Option.ne_none_iff_exists'.1 hu
      have l1 := (h1.row.lt b hb).2
      have l2 := (ho.lt b (e ▸ hb)).1
      omega
  · have l1 : b < W.heap.size := by
      obtain ⟨g1, g2, -⟩ := h1.good o hos
      rcases hb2 with hb2 | hb2
      · exact (g1.lt b hb2).2
      · exact (g2.lt b hb2).2
    have l2 : W.heap.size ≤ b := by
      obtain ⟨g1, g2, -⟩ := hg r (List.mem_of_mem_drop hr)
      rcases hb with hb | hb
      · exact (g1.lt b hb).1
      · exact (g2.lt b hb).1
    omega
  · obtain ⟨g1, g2, g3⟩ := hg r (List.mem_of_mem_drop hr)
    exact ⟨g1.mono sz, g2.mono sz, g3⟩
theorem ScJ.put (h : ScJ w W tb ob bv blv fv cnt rd s) {l : Nat} {o o' : Obj} (hl : W.heap[l]? = some o) (hc : o.isCells = false) (hwl : w.heap.size ≤ l) : ScJ w (W.putObj l o') tb ob bv blv fv cnt rd s := by
  have c : Chg (fun b => b = l) W (W.putObj l o') := Chg.of_grown (grownBy_putObj' W l o') (fun b _ e => by cases e; rfl)
  have nc : ∀ b cur e f, W.heap[b]? = some (.cells cur e f) → b ≠ l := fun b cur e f hb e2 => by
    rw [e2, hl] at hb
    cases hb
    cases hc
  obtain ⟨v, os, ho⟩ := h.out
  refine ⟨h.chg.fresh c (fun b hb e => by omega), (c.block _ (Array.getElem?_eq_some_iff.1 h.tbx).1 (nc _ _ _ _ h.tbx)).trans h.tbx, h.lt, ⟨v, os, ho.chg c (fun b cu t hb _ => nc b _ _ _ hb)⟩, c.own h.row (fun b hb => by obtain ⟨-, -, cu, hc⟩ := own_typed h.row b hb; exact nc b _ _ _ hc), fun r hr => (h.good r hr).chg c (fun b cu hb => nc b _ _ _ hb), h.ap, h.sh⟩
theorem ap_later : ∀ {rs : List EV} {j : Nat} {r q : EV}, rs.Pairwise ApE → rs[j]? = some r → q ∈ rs.drop (j + 1) → ApE r q
  | a :: rs, 0, r, q, h, hr, hq => by
    cases hr
    exact (List.pairwise_cons.1 h).1 q (by simpa using hq)
  | a :: rs, j + 1, r, q, h, hr, hq => ap_later (List.pairwise_cons.1 h).2 (by simpa using hr) (by simpa using hq)
  | [], j, r, q, _, hr, _ => by simp at hr
/-- an entry was told: it is copied behind the others, and written over -/
theorem ScJ.turn (h : ScJ w W tb ob bv blv fv cnt rd s) {v v' : Value} {os : List EV} (ho : ScO w W ob s v os) {r : EV} (hr : s.rs[s.j]? = some r) {kv vv : Value}
    (CC : Chg (fun b => (v.ownBlock = some b ∨ b = ob) ∨ (r.2.1.ownBlock = some b ∨ r.2.2.ownBlock = some b)) W W') (hb : W'.heap[ob]? = some (.cells #[v'] 22 (0, 0)))
    (own : W'.ownsRow w.heap.size 46 4 v' (os.length + 1) (os.flatMap c4 ++ c4 (r.1, kv, vv))) (hv : v'.ownBlock = v.ownBlock ∨ ∃ b, v'.ownBlock = some b ∧ W.heap.size ≤ b) (hk : OwnS W' W.heap.size 5 kv r.1.1) (hvv : OwnS W' W.heap.size 5 vv r.1.2.2.2) : ScJ w W' tb ob bv blv fv cnt rd s.nx := by
  have hrm : r ∈ s.rs.drop s.j := List.mem_of_getElem? (i := 0) (by rw [List.getElem?_drop, Nat.add_zero]; exact hr)
  obtain ⟨gr1, gr2, gr3⟩ := h.good r hrm
  have sz := h.chg.size
  have sub : ∀ q ∈ s.rs.drop (s.j + 1), q ∈ s.rs.drop s.j := fun q hq => by
    rw [← List.drop_drop] at hq
    exact List.mem_of_mem_drop hq
  have hty : ∀ b cur t, W.heap[b]? = some (.cells cur t (0, 0)) → t ≠ 46 → t ≠ 22 → t ≠ 5 → ¬ ((v.ownBlock = some b ∨ b = ob) ∨ (r.2.1.ownBlock = some b ∨ r.2.2.ownBlock = some b)) := fun b cur t hbb h1 h2 h3 e => by
    rcases e with (e | e) | (e | e)
    · obtain ⟨-, -, c, hc⟩ := own_typed ho.row b e; exact h1 (types_apart hbb hc)
    · subst e; exact h2 (types_apart hbb ho.bx)
    · obtain ⟨c, hc⟩ := gr1.typed b e; exact h3 (types_apart hbb hc)
    · obtain ⟨c, hc⟩ := gr2.typed b e; exact h3 (types_apart hbb hc)
  have hu8 : ∀ (u : Value) (l : List Int) (b2 : Nat), OwnS W b2 5 u l → (∀ b, u.ownBlock = some b → ¬ (r.2.1.ownBlock = some b ∨ r.2.2.ownBlock = some b)) → OwnS W' b2 5 u l := fun u l b2 hu hn => CC.ownS hu (fun b hb e => by
    obtain ⟨c, hc⟩ := hu.typed b hb
    rcases e with (e | e) | e
    · obtain ⟨-, -, c2, hc2⟩ := own_typed ho.row b e; exact absurd (types_apart hc hc2) (by decide)
    · rw [e] at hc; exact absurd (types_apart hc ho.bx) (by decide)
    · exact hn b hb e)
  have hmap : s.nx.pre = s.pre ++ [r.1] := by unfold ScS.nx; simp [hr]
  refine ⟨h.chg.fresh CC (fun b hb e => ?_), (CC.block tb (Array.getElem?_eq_some_iff.1 h.tbx).1 (hty _ _ _ h.tbx (by decide) (by decide) (by decide))).trans h.tbx, h.lt, ⟨v', os ++ [(r.1, kv, vv)], hb, by rw [List.map_append, ho.map, hmap]; rfl, ?_, fun o hos => ?_, ?_, fun o hos q hq => ?_⟩, ?_, fun q hq => ?_, h.ap, fun q hq => h.sh q (sub q hq)⟩
  · rcases e with (e | e) | (e | e)
    · have := (ho.row.lt b e).1; omega
    · exact .inr e
    · have := (gr1.lt b e).1; omega
    · have := (gr2.lt b e).1; omega
  · rw [List.length_append, List.flatMap_append, List.flatMap_cons, List.flatMap_nil, List.append_nil]
    exact own
  · rcases List.mem_append.1 hos with hos | hos
    · obtain ⟨g1, g2, g3⟩ := ho.good o hos
      have ha := ho.ap o hos r hrm
      exact ⟨hu8 _ _ _ g1 (fun b hb e => ha b e (.inl hb)), hu8 _ _ _ g2 (fun b hb e => ha b e (.inr hb)), g3⟩
    · rw [List.mem_singleton] at hos
      subst hos
      exact ⟨hk.mono sz, hvv.mono sz, gr3⟩
  · rcases hv with hv | ⟨b, hv, hb2⟩
    · rcases ho.ar with h1 | h1
      · exact .inl (hv.trans h1)
      · exact .inr (hv ▸ h1)
    · refine .inr (fun e => ?_)
      have := (h.row.lt b (e ▸ hv)).2
      omega
  · rcases List.mem_append.1 hos with hos | hos
    · exact ho.ap o hos q (sub q hq)
    · rw [List.mem_singleton] at hos
      subst hos
      intro b hb2 hb3
      obtain ⟨g1, g2, -⟩ := h.good q (sub q hq)
      have l1 : b < W.heap.size := by
        rcases hb2 with hb2 | hb2
        · exact (g1.lt b hb2).2
        · exact (g2.lt b hb2).2
      have l2 : W.heap.size ≤ b := by
        rcases hb3 with hb3 | hb3
        · exact (hk.lt b hb3).1
        · exact (hvv.lt b hb3).1
      omega
  · refine CC.own h.row (fun b hb e => ?_)
    obtain ⟨-, -, c, hc⟩ := own_typed h.row b hb
    rcases e with (e | e) | (e | e)
    · rcases ho.ar with h1 | h1
      · rw [h1] at e; cases e
      · exact h1 (e.trans hb.symm)
    · rw [e] at hc; exact absurd (types_apart hc ho.bx) (by decide)
    · obtain ⟨c2, hc2⟩ := gr1.typed b e; exact absurd (types_apart hc hc2) (by decide)
    · obtain ⟨c2, hc2⟩ := gr2.typed b e; exact absurd (types_apart hc hc2) (by decide)
  · obtain ⟨g1, g2, g3⟩ := h.good q (sub q hq)
    have ha := ap_later h.ap hr hq
    exact ⟨hu8 _ _ _ g1 (fun b hb e => ha b e (.inl hb)), hu8 _ _ _ g2 (fun b hb e => ha b e (.inr hb)), g3⟩
/-- the table, as it is -/
theorem ScJ.tab {base : Nat} {av : Value} {b fil : List Int} {rows : List BV} {all : List En} (h : ScJ w W tb ob bv blv fv cnt rd s) (h0 : OpI base w tb bv blv fv av cnt rd b fil rows all) (hob : ∃ v, w.heap[ob]? = some (.cells #[v] 22 (0, 0))) : OpI base W tb bv blv fv av cnt (rd + s.n) b fil rows all := by
  obtain ⟨v, hv⟩ := hob
  refine h0.away' h.chg (fun b cur t hb ht e => ?_) h.tbx
  rcases e with rfl | rfl
  · have := types_apart hb h0.box
    rcases ht with rfl | rfl | rfl <;> exact absurd this (by decide)
  · have := types_apart hb hv
    rcases ht with rfl | rfl | rfl <;> exact absurd this (by decide)
end
end Ss
end Go.Proofs.Ytmojbamloanleaa
namespace Go.Proofs.Ytmojbamloanleaa
open Go.RowKit Go.Shelf
attribute [local go_sem] Oper.semAt_some
namespace Ss
open Mt Codec
def ScanP (tb : Nat) (key : List Int) (w : World) (e : Ending) (w' : World) : Prop := ∃ kv, e = .returned (.func (.func 78) #[] #[.pointer (some ⟨w.heap.size, 0, none⟩), .pointer (some ⟨w.heap.size + 1, 0, none⟩)]) ∧
  w'.cell? ⟨w.heap.size, 0, none⟩ = some (.pointer (some ⟨tb, 0, none⟩)) ∧ w'.cell? ⟨w.heap.size + 1, 0, none⟩ = some kv ∧ OwnS w' w.heap.size 5 kv key ∧ Below w.heap.size w w'
set_option maxRecDepth 100000 in
set_option maxHeartbeats 1000000 in
theorem sscan_any (tb : Nat) (fv : Value) (key : List Int) (w : World) (hk : IsB w fv key) (hl : key.length ≤ 140737488355328) : Calls Try.prog 47 #[.pointer (some ⟨tb, 0, none⟩), fv] w (ScanP tb key w) := by
  obtain ⟨ko, kc, rfl, -, -, -⟩ := hk.form
  have HC := Lib.hid (cloneB_any ko kc key ((w.alloc (.cells #[.pointer (some ⟨tb, 0, none⟩)] 31)).alloc (.cells #[.slice ko key.length kc] 25)) ((hk.alloc _).alloc _) hl)
  clear hk hl
  go_enter Try.func47, Try.ntmps47
  go_wp2_with fail
  refine HC.out.mono ?_
  unfold CloneP
  rintro e w1 ⟨ao, cap, rfl, h1, h2, ho, hb⟩
  have c0 : w1.cell? ⟨w.heap.size, 0, none⟩ = some (.pointer (some ⟨tb, 0, none⟩)) := (hb.cell (p := ⟨w.heap.size, 0, none⟩) (by simp <;> omega)).trans (by go_simp)
  have c1 : w1.cell? ⟨w.heap.size + 1, 0, none⟩ = some (.slice ko key.length kc) := (hb.cell (p := ⟨w.heap.size + 1, 0, none⟩) (by simp <;> omega)).trans (by go_simp)
  have cf1 : w1.frozen? ⟨w.heap.size + 1, 0, none⟩ = false := (hb.frozen (p := ⟨w.heap.size + 1, 0, none⟩) (by simp <;> omega)).trans (by go_simp)
  have HB : Hid (Below w.heap.size w w1) := Lib.hid (bel_call (bel_alloc (bel_alloc (Below.refl _ w) _) _) hb)
  have HO := Lib.hid ho
  clear hb ho
  go_wp2_with fail
  go_ret
  refine ⟨_, rfl, ?_, World.cell?_setCell_same' _ _ _ (by rw [c1]; rfl), (ownS_away HO.out (gb_set (gb_refl w1 (some (w.heap.size + 1))) (p := ⟨w.heap.size + 1, 0, none⟩) (.inl rfl) _) (by simp)).mono (by simp <;> omega), HB.out.setCell (p := ⟨w.heap.size + 1, 0, none⟩) (by simp) _⟩
  rw [World.cell?_setCell_other _ _ _ _ (by simp)]
  exact c0
theorem filtF_cons (from_ : List Int) (x : En) (l : List En) : filtF from_ (x :: l) = if 0 ≤ cmpB x.1 from_ then x :: filtF from_ l else filtF from_ l := by
  unfold filtF
  rw [List.filter_cons]
  by_cases h : 0 ≤ cmpB x.1 from_ <;> simp [h]
/-- what is told by now, and what is to come -/
def ScY (Y : List (En × Nat)) (s : ScS) (rest : List (En × Nat)) : Prop := ∃ Y1, Y = Y1 ++ rest ∧ Y1.map (·.1) = s.pre
def ScFin (Y : List (En × Nat)) (N : Nat) (s : ScS) : Prop := Y.map (·.1) = s.pre ∧ s.n = N
def ScRch (Y : List (En × Nat)) (s : ScS) : Prop := ∃ x, Y[s.pre.length]? = some (x, s.n) ∧ s.nx.pre = (Y.take (s.pre.length + 1)).map (·.1)
theorem ScY.rch {Y rest : List (En × Nat)} {s : ScS} {x : En} {r : EV} (h : ScY Y s ((x, s.n) :: rest)) (hr : s.rs[s.j]? = some r) (hx : r.1 = x) : ScRch Y s ∧ ScY Y s.nx rest := by
  obtain ⟨Y1, rfl, h2⟩ := h
  have hl : Y1.length = s.pre.length := by rw [← h2, List.length_map]
  have e1 : s.nx.pre = s.pre ++ [x] := by unfold ScS.nx; simp [hr, hx]
  refine ⟨⟨x, ?_, ?_⟩, Y1 ++ [(x, s.n)], by simp, by rw [List.map_append, h2, e1]; rfl⟩
  · rw [List.getElem?_append_right (by omega), ← hl, Nat.sub_self]; rfl
  · rw [e1, ← hl, show Y1 ++ (x, s.n) :: rest = (Y1 ++ [(x, s.n)]) ++ rest from by simp, List.take_left' (by simp), List.map_append, h2]; rfl
set_option maxRecDepth 100000 in
set_option maxHeartbeats 8000000 in
theorem siter_any (base tb ob : Nat) (bv blv fv av : Value) (b fil : List Int) (cnt rd : Int) (rows : List BV) (all : List En) (b1 b2 l : Nat) (kv : Value) (key : List Int) (most base2 : Nat) (J Jx : ScS → World → Prop) (w W : World)
    (h0 : OpI base w tb bv blv fv av cnt rd b fil rows all) (hob : ∃ v, w.heap[ob]? = some (.cells #[v] 22 (0, 0)))
    (hJI : ∀ s W, J s W → ScJ w W tb ob bv blv fv cnt rd s ∧ s.pre.length < most)
    (hJS : ∀ s s' W W', J s W → (ScJ w W' tb ob bv blv fv cnt rd s' ∧ s'.pre.length < most) → StpC W W' → J s' W')
    (hb1 : b1 < w.heap.size ∧ b1 ≠ tb ∧ b1 ≠ ob) (hb2 : b2 < w.heap.size ∧ b2 ≠ tb ∧ b2 ≠ ob)
    (c1 : w.cell? ⟨b1, 0, none⟩ = some (.pointer (some ⟨tb, 0, none⟩))) (c2 : w.cell? ⟨b2, 0, none⟩ = some kv) (hk : OwnS w base2 5 kv key)
    (hok : ∀ r ∈ rows, BlkOk b r.1 ∧ r.1.2.2.length ≤ 4194304 ∧ ∀ e ∈ r.1.2.2, Short e) (hrl : rows.length ≤ 4194304) (hbl : b.length ≤ 4194304) (hb0 : 0 < b.length) (hrd : 0 ≤ rd ∧ rd ≤ 1000000000000)
    (hY : ∀ s W1 v, J s W1 → HandS s v → YieldAt Fence.wide 5 Try.prog l #[v] W1 fun e W' => (e = .returned (.bool true) ∧ J s.nx W') ∨ (e = .returned (.bool false) ∧ Jx s.nx W'))
    (hJ0 : J ⟨[], 0, .slice none 0 0, [], 0⟩ W) :
    CallsIn Fence.wide 6 Try.prog 78 #[.func (.yield l) #[] #[], .pointer (some ⟨b1, 0, none⟩), .pointer (some ⟨b2, 0, none⟩)] W fun e W' => (∃ v, e = .returned v) ∧
      ((∃ s, ScFin (ylF key 0 ((rows.map (·.1)).drop (findF (rows.map (·.1)) key))) ((rows.map (·.1)).drop (findF (rows.map (·.1)) key)).length s ∧ J s W') ∨ ∃ s, ScRch (ylF key 0 ((rows.map (·.1)).drop (findF (rows.map (·.1)) key))) s ∧ Jx s.nx W') := by
  obtain ⟨ko, kc, rfl, -, -, -, -⟩ := hk.form
  obtain ⟨v0, hv0⟩ := hob
  have HTB : Hid (∀ s W, J s W → OpI base W tb bv blv fv av cnt (rd + s.n) b fil rows all) := Lib.hid (fun s W h => (hJI s W h).1.tab h0 ⟨v0, hv0⟩)
  have HC1 : Hid (∀ s W, J s W → W.cell? ⟨b1, 0, none⟩ = some (.pointer (some ⟨tb, 0, none⟩))) := Lib.hid (fun s W h => ((hJI s W h).1.chg.cell hb1.1 (fun e => e.elim hb1.2.1 hb1.2.2)).trans c1)
  have HC2 : Hid (∀ s W, J s W → W.cell? ⟨b2, 0, none⟩ = some (.slice ko key.length kc)) := Lib.hid (fun s W h => ((hJI s W h).1.chg.cell hb2.1 (fun e => e.elim hb2.2.1 hb2.2.2)).trans c2)
  have HKB : Hid (∀ s W, J s W → IsB W (.slice ko key.length kc) key) := Lib.hid (fun s W h => ((hJI s W h).1.chg.ownS hk (fun b hb e => by
    obtain ⟨cu, hc⟩ := hk.typed b hb
    rcases e with rfl | rfl
    · exact absurd (types_apart hc h0.box) (by decide)
    · exact absurd (types_apart hc hv0) (by decide))).isB)
  have HJI := Lib.hid hJI
  have HJS := Lib.hid hJS
  have HJB : Hid (∀ s W W', J s W → Below W.heap.size W W' → J s W') := Lib.hid (fun s W W' h hb => hJS s s W W' h ⟨(hJI s W h).1.below hb, (hJI s W h).2⟩ (stpC_below hb))
  have HY := Lib.hid hY
  obtain ⟨lo, lc, hlv, -, -, -, -⟩ := own_form h0.ol
  obtain ⟨R, hR⟩ : ∃ R, rows.length = R := ⟨_, rfl⟩
  rw [hR] at hlv hrl
  subst hlv
  have HLK : Hid (∀ s W (i : Nat) (r : BV), J s W → s.n ≤ R → rows[i]? = some r → Calls Try.prog 51 #[.pointer (some ⟨tb, 0, none⟩), .int .i64 i] W (LookPA base tb bv (.slice lo R lc) fv av b fil cnt (rd + s.n) rows all r.1.2.2 W)) := Lib.hid (fun s W i r h hn hr => lookA_any base tb bv _ fv av b fil cnt (rd + s.n) rows all r i W (HTB.out s W h) hr (hok r (List.mem_of_getElem? hr)).1 (by omega) hbl hb0 (by omega))
  have HRL : Hid (∀ i, i < R → ∃ r, rows[i]? = some r ∧ (rows.map (·.1)).drop i = r.1 :: (rows.map (·.1)).drop (i + 1) ∧ r.1.2.2.length ≤ 4194304 ∧ ∀ e ∈ r.1.2.2, Short e) := Lib.hid (fun i hi => by
    have hi' : i < rows.length := by omega
    refine ⟨rows[i], List.getElem?_eq_getElem hi', ?_, (hok _ (List.getElem_mem hi')).2⟩
    rw [List.drop_eq_getElem_cons (by rw [List.length_map]; exact hi'), List.getElem_map])
  have HFE : Hid ((rows.map (·.1)).drop R = []) := Lib.hid (List.drop_eq_nil_of_le (by rw [List.length_map]; omega))
  have HFI := Lib.hid (find_any base tb bv _ fv av b fil cnt (rd + (0 : Nat)) rows all _ key W (HTB.out _ _ hJ0) (by omega) (HKB.out _ _ hJ0))
  have HFL : Hid (findF (rows.map (·.1)) key ≤ R) := Lib.hid (by
    have := (srchF_le (geF (rows.map (·.1)) key) (rows.map (·.1)).length 0 (rows.map (·.1)).length (Nat.zero_le _)).2
    unfold findF
    rw [List.length_map] at this ⊢
    omega)
  have HBL : Hid ((rows.map (·.1)).length = R) := Lib.hid (by rw [List.length_map, hR])
  have H0J := Lib.hid hJ0
  have d1 := HC1.out _ _ hJ0
  have d2 := HC2.out _ _ hJ0
  generalize rows.map (·.1) = bs at HRL HFE HFI HFL HBL ⊢
  generalize findF bs key = ix at HFI HFL ⊢
  clear hk hok hb1 hb2 c1 c2 hJI hJS hY hJ0 hv0 hR h0
  refine callsIn_wide.2 ?_
  go_enter Try.func78, Try.ntmps78
  go_wp2_with fail
  refine HFI.out.mono ?_
  rintro e w1 ⟨rfl, hb⟩
  have HJ1 := Lib.hid (HJB.out _ _ _ H0J.out hb)
  clear hb d1 d2 HFI
  go_wp2_with fail
  go_loopw [4] (fun iv wr => ∃ (i : Nat) (s : ScS), iv = .int .i64 i ∧ i ≤ R ∧ s.n + ix = i ∧ Hid (J s wr) ∧ Hid (ScY (ylF key 0 (bs.drop ix)) s (ylF key s.n (bs.drop i)))) (fun iv _ => R - (intOf iv).toNat)
  case atStart => exact ⟨ix, _, rfl, HFL.out, by simp, HJ1, Lib.hid ⟨[], by simp, rfl⟩⟩
  case round =>
    obtain ⟨i, s, rfl, hi, hsi, hj, hy⟩ := hrel
    have d1 := HC1.out _ _ hj.out
    have e1 := (HTB.out _ _ hj.out).c1
    by_cases hlt : i < R
    · obtain ⟨r, hr, hdr, hll, hsh⟩ := HRL.out i hlt
      have HSH := Lib.hid hsh
      have p0 : (i : Int) < R := by omega
      have p1 := IntWalk.i64_in ((i : Int) + 1) (by omega)
      have HLC := Lib.hid (HLK.out s wr i r hj.out (by omega) hr)
      have HYL : Hid (ylF key s.n (bs.drop i) = (filtF key r.1.2.2).map (fun e => (e, s.n + 1)) ++ ylF key (s.n + 1) (bs.drop (i + 1))) := Lib.hid (by rw [hdr]; rfl)
      clear hr hdr hsh
      go_wp2_with fail
      refine HLC.out.mono ?_
      unfold LookPA
      rintro e w8 ⟨v8, rs, rfl, m8, o8, g8, a8, q8, k8⟩
      have hji := HJI.out _ _ hj.out
      have HJ8 : Hid (J ⟨s.pre, s.n + 1, v8, rs, 0⟩ w8) := Lib.hid (HJS.out s _ _ _ hj.out ⟨hji.1.look o8 g8 a8 (fun q hq => HSH.out _ (by rw [← m8]; exact List.mem_map.2 ⟨q, hq, rfl⟩)) q8.box k8, hji.2⟩ (stpC_tb hji.1.tbx k8))
      obtain ⟨vo8, vc8, rfl, -, -, -, -⟩ := own_form o8
      have M8 := Lib.hid m8
      obtain ⟨L, hL⟩ : ∃ L, rs.length = L := ⟨_, rfl⟩
      have hLl : L ≤ 4194304 := by rw [← hL, ← List.length_map (f := (·.1)), m8]; exact hll
      have HLE := Lib.hid hL
      rw [hL] at HJ8 ⊢
      clear o8 g8 a8 q8 k8 hji d1 e1 HLC m8 hL
      go_wp2_with fail
      obtain ⟨wo, hwo⟩ : ∃ wo, wo = wr := ⟨_, rfl⟩
      subst hwo
      go_loopw [23] (fun jv wr => ∃ (j : Nat) (t : ScS), jv = .int .i64 j ∧ j ≤ L ∧ t.n = s.n + 1 ∧ t.rv = .slice vo8 L vc8 ∧ t.rs = rs ∧ t.j = j ∧ Hid (J t wr) ∧ Hid (ScY (ylF key 0 (bs.drop ix)) t ((filtF key (r.1.2.2.drop j)).map (fun e => (e, s.n + 1)) ++ ylF key (s.n + 1) (bs.drop (i + 1))))) (fun jv _ => L - (intOf jv).toNat)
      case atStart => exact ⟨0, _, rfl, Nat.zero_le _, rfl, rfl, rfl, rfl, HJ8, Lib.hid (by rw [List.drop_zero, ← HYL.out]; exact hy.out)⟩
      case round =>
        obtain ⟨j, t, rfl, hjl, htn, htv, htr, htj, hjt, hyt⟩ := hrel
        by_cases hjL : j < L
        · have hji := HJI.out _ _ hjt.out
          obtain ⟨q, hq⟩ : ∃ q, rs[j]? = some q := ⟨rs[j]'(by have := HLE.out; omega), List.getElem?_eq_getElem (by have := HLE.out; omega)⟩
          have hqx : r.1.2.2[j]? = some q.1 := by rw [← M8.out, List.getElem?_map, hq]; rfl
          have hrow := hji.1.row
          rw [htv, htr, HLE.out] at hrow
          obtain ⟨g1, g2, hu⟩ := hji.1.good q (by rw [htr, htj]; exact List.mem_of_getElem? (i := 0) (by rw [List.getElem?_drop, Nat.add_zero]; exact hq))
          have hc : ∀ i u, (c4 q)[i]? = some u → (rs.flatMap c4)[j * 4 + i]? = some u := fun i u hu => by
            rw [flat_get c4_len rs j i q hq (by have := (List.getElem?_eq_some_iff.1 hu).1; rwa [c4_len] at this)]; exact hu
          obtain ⟨g, rfl, -, hgl, x0⟩ := own_cell hrow (hc 0 _ rfl)
          have x1 := own_cell' hrow (hc 1 _ rfl)
          have x2 := own_cell' hrow (hc 2 _ rfl)
          have x3 := own_cell' hrow (hc 3 _ rfl)
          have x0' : wr.cell? ⟨g, j * 4, none⟩ = some q.2.1 := x0
          obtain ⟨kqo, kqc, hkq, -, -, -, -⟩ := g1.form
          obtain ⟨vqo, vqc, hvq, -, -, -, -⟩ := g2.form
          rw [hkq] at x0' g1
          rw [hvq] at x3 g2
          have HDR : Hid (filtF key (r.1.2.2.drop j) = if 0 ≤ cmpB q.1.1 key then q.1 :: filtF key (r.1.2.2.drop (j + 1)) else filtF key (r.1.2.2.drop (j + 1))) := Lib.hid (by
            have h9 := List.getElem?_eq_some_iff.1 hqx
            rw [List.drop_eq_getElem_cons h9.1, h9.2, filtF_cons])
          have p2 : (j : Int) < (L : Int) := by omega
          have p3 : (0 : Int) ≤ (j : Int) := by omega
          have p4 := IntWalk.i64_in ((j : Int) + 1) (by omega)
          have GA : Hid (Below wr.heap.size wr (wr.alloc (.cells #[.slice kqo q.1.1.length kqc, .int .u64 q.1.2.1, .bool q.1.2.2.1, .slice vqo q.1.2.2.2.length vqc] 46))) := Lib.hid ((Below.refl _ wr).alloc (Nat.le_refl _) _)
          have HJX := Lib.hid (HJB.out t _ _ hjt.out GA.out)
          have d2 := HC2.out _ _ HJX.out
          have HCC := Lib.hid (ccompare_any _ _ q.1.1 key _ (g1.isB.below GA.out) (HKB.out _ _ HJX.out))
          have HHD : Hid (HandS t (.agg #[.slice kqo q.1.1.length kqc, .int .u64 q.1.2.1, .bool q.1.2.2.1, .slice vqo q.1.2.2.2.length vqc])) := Lib.hid ⟨q, by rw [htr, htj]; exact hq, by rw [hkq, hvq]⟩
          have HQ : Hid (t.rs[t.j]? = some q) := Lib.hid (by rw [htr, htj]; exact hq)
          clear g1 g2 hkq hvq hc hrow hq hqx x0
          by_cases hpass : 0 ≤ cmpB q.1.1 key
          · have HY2 : Hid (ScRch (ylF key 0 (bs.drop ix)) t ∧ ScY (ylF key 0 (bs.drop ix)) t.nx ((filtF key (r.1.2.2.drop (j + 1))).map (fun e => (e, s.n + 1)) ++ ylF key (s.n + 1) (bs.drop (i + 1)))) := Lib.hid (by
              refine ScY.rch (x := q.1) ?_ HQ.out rfl
              have h9 := hyt.out
              rw [HDR.out, if_pos hpass, ← htn] at h9
              rw [← htn]
              exact h9)
            clear hji
            go_upto_region 6 with fail
            refine (wpIn_wide (n := 6)).1 ?_
            gi_wp2_with (refine ⟨trivial, ?_⟩; gi_at_call 48; refine (callsIn_wide.2 HCC.out).mono ?_; rintro e w2 ⟨rfl, rfl⟩; obtain ⟨fn, tmps, assign, body, hy9, hR⟩ := HY.out t _ _ HJX.out HHD.out)
            refine hR.mono ?_
            rintro e W3 (⟨rfl, hJ3⟩ | ⟨rfl, hJx3⟩)
            · clear hR hy9 x0' x1 x2 x3 d2
              gi_wp2
              go_wp2_with fail
              go_roundw
              case rel => exact ⟨j + 1, t.nx, by go_num, by omega, htn, htv, htr, by show t.j + 1 = _; omega, hJ3, HY2.out.2⟩
              case measure => simp [intOf] <;> omega
            · clear hR hy9 x0' x1 x2 x3 d2
              gi_wp2
              go_wp2_with fail
              refine bodyPost_ret (results_none rfl _ _ _) rfl ?_
              exact ⟨⟨_, rfl⟩, .inr ⟨t, HY2.out.1, hJx3⟩⟩
          · have HY2 : Hid (ScY (ylF key 0 (bs.drop ix)) t.skip ((filtF key (r.1.2.2.drop (j + 1))).map (fun e => (e, s.n + 1)) ++ ylF key (s.n + 1) (bs.drop (i + 1)))) := Lib.hid (by
              have h9 := hyt.out
              rw [HDR.out, if_neg hpass] at h9
              exact h9)
            have HJK := Lib.hid (HJS.out t t.skip _ _ hjt.out ⟨(hji.1.below GA.out).skip, hji.2⟩ (stpC_below GA.out))
            clear hji
            go_wp2_with fail
            refine HCC.out.mono ?_
            rintro e w9 ⟨rfl, rfl⟩
            go_wp2_with fail
            go_roundw
            case rel => exact ⟨j + 1, t.skip, by go_num, by omega, htn, htv, htr, by show t.j + 1 = _; omega, HJK, HY2⟩
            case measure => simp [intOf] <;> omega
        · have hje : j = L := by omega
          subst hje
          have HE : Hid (filtF key (r.1.2.2.drop j) = []) := Lib.hid (by rw [List.drop_eq_nil_of_le (by rw [← M8.out, List.length_map, HLE.out]; exact Nat.le_refl _)]; rfl)
          have HY2 : Hid (ScY (ylF key 0 (bs.drop ix)) t (ylF key t.n (bs.drop (i + 1)))) := Lib.hid (by
            have h9 := hyt.out
            rw [HE.out] at h9
            rw [htn]
            exact h9)
          have p2 : ¬ (j : Int) < (j : Int) := by omega
          clear HE
          go_wp2_with fail
          go_roundw
          case rel => exact ⟨i + 1, t, by go_num, by omega, by omega, hjt, HY2⟩
          case measure => simp [intOf] <;> omega
    · have hie : i = R := by omega
      subst hie
      have HF : Hid (ScFin (ylF key 0 (bs.drop ix)) (bs.drop ix).length s) := Lib.hid (by
        obtain ⟨Y1, h1, h2⟩ := hy.out
        rw [HFE.out] at h1
        refine ⟨by rw [h1, ← h2]; simp [ylF], by rw [List.length_drop, HBL.out]; omega⟩)
      have p0 : ¬ (i : Int) < (i : Int) := by omega
      go_wp2_with fail
      go_end0
      exact ⟨⟨_, rfl⟩, .inl ⟨s, by first | exact HF.out | (rw [← List.length_drop]; exact HF.out), hj.out⟩⟩
end Ss
end Go.Proofs.Ytmojbamloanleaa
namespace Go.Proofs.Ytmojbamloanleaa
open Go.RowKit Go.Shelf
attribute [local go_sem] Oper.semAt_some
theorem wpListIn_append_own_at {F : Fence} {n : Nat} {P : Program} (w : World) {ops : Array Oper} {rest : List Oper} {o : Oper} {a : Act} {Q : Exit → Act → World → Prop}
    (hg : o.guard = none) (s x : Operand) (t : TypeId) (hop : o.op = Op.call { callee := Callee.builtin Builtin.append, args := #[s, x], argTypes := #[t, t] })
    (base : Nat) (e : TypeId) (i : TypeInfo) (z : Value) (size bytes : Nat) (h1 : P.underlying t = some (.slice e)) (h2 : P.info? e = some i) (h3 : i.zero = some z) (h4 : i.size = size) (h5 : i.bytes = bytes) (h6 : z.cells.size = size) (h7 : 0 < size)
    (v : Value) (k : Nat) (xs : List Value) (hs : a.eval s = v) (hown : w.ownsRow base e size v k xs) (ad : Addr) (m c : Nat) (news : List Value) (hx : a.eval x = .slice (some ad) m c) (hn : news.length = m * size)
    (hc : ∀ j u, news[j]? = some u → w.cell? (ad.add j) = some u) (h1c : ∀ u ∈ news, u.oneCell' = true) (b1 : k + m ≤ maxLen) (b2 : (k + m) * bytes ≤ 140737488355328) (b3 : base ≤ w.heap.size)
    (hK : ∀ v' w', w'.ownsRow base e size v' (k + m) (xs ++ news) → w.grownBy w' v.ownBlock → (v'.ownBlock = v.ownBlock ∨ v'.ownBlock = some w.heap.size) → wpListIn F n P ops Q rest (a.put o.dst v') w') :
    wpListIn F n P ops Q (o :: rest) a w := by
  refine wpListIn_plain hg fun K hK' => ?_
  obtain ⟨v', w', hrun, r1, r2, -, r3⟩ := run_append_own_at (P := P) w base t o.type e i z size bytes h1 h2 h3 h4 h5 h6 h7 v k xs hown ad m c news hn hc h1c b1 b2 b3
  unfold Oper.wpIn
  refine ⟨?_, ?_⟩
  · simp [Oper.about, hop, resolve, Target.leads, Sem.run_pure]
  · rw [Oper.semAt_plain F _ _ (by rw [hop]; intro c hc'; cases hc')]
    simp [execOp, hop, resolve, invoke, builtin, hs, hx, hrun, Result.andThen]
    exact hK' _ _ (hK v' w' r1 r2 r3)
namespace Ss
open Mt Codec
theorem ob_turn {w : World} {b : Nat} {v : Value} {e : TypeId} (h : w.heap[b]? = some (.cells #[v] e (0, 0))) (u : Value) : (w.setCell ⟨b, 0, none⟩ u).heap[b]? = some (.cells #[u] e (0, 0)) := by
  rw [heap_setCell_same w b 0 _ _ _ h]
  rfl
theorem ob_up {W w2 : World} {b : Nat} {o9 : Obj} (hb : Below W.heap.size W w2) (h : W.heap[b]? = some o9) (o o' : Obj) : ((w2.alloc o).alloc o').heap[b]? = some o9 :=
  (Below.heap_alloc _ _ _ (by have := (Array.getElem?_eq_some_iff.1 h).1; have := hb.size; simp; omega)).trans ((Below.heap_alloc _ _ _ (by have := (Array.getElem?_eq_some_iff.1 h).1; have := hb.size; omega)).trans ((hb.block _ (Array.getElem?_eq_some_iff.1 h).1).trans h))
theorem new_cells (w : World) (o : Obj) (news : List Value) : ∀ j u, news[j]? = some u → ((w.alloc o).alloc (.cells news.toArray 46)).cell? ((⟨w.heap.size + 1, 0, none⟩ : Addr).add j) = some u := by
  intro j u hj
  have h := heap_alloc_new (w.alloc o) (.cells news.toArray 46)
  rw [World.size_alloc] at h
  rw [plain_add', cell_of_row _ _ (0 + j) _ _ (0, 0) h]
  simpa using hj
/-- how many blocks a scan has looked into -/
def scanN (Y : List (En × Nat)) (N most : Nat) : Nat := if Y.length < most then N else ((Y[most - 1]?).map (·.2)).getD 0
def ScanLP (base tb : Nat) (bv blv fv av : Value) (b fil : List Int) (cnt rd : Int) (rows : List BV) (all : List En) (Y : List (En × Nat)) (N most : Nat) (w : World) (e : Ending) (w' : World) : Prop :=
  ∃ v, e = .returned v ∧ OwnEs w' w.heap.size v ((Y.map (·.1)).take most) ∧ OpI base w' tb bv blv fv av cnt (rd + scanN Y N most) b fil rows all ∧ Chg (fun b => b = tb) w w'
set_option maxRecDepth 100000 in
set_option maxHeartbeats 8000000 in
theorem lscan_any (base tb : Nat) (bv blv fv av : Value) (b fil : List Int) (cnt rd : Int) (rows : List BV) (all : List En) (fkv : Value) (key : List Int) (most : Nat) (w : World) (h0 : OpI base w tb bv blv fv av cnt rd b fil rows all) (hk : IsB w fkv key) (hl : key.length ≤ 140737488355328)
    (hok : ∀ r ∈ rows, BlkOk b r.1 ∧ r.1.2.2.length ≤ 4194304 ∧ ∀ e ∈ r.1.2.2, Short e) (hrl : rows.length ≤ 4194304) (hbl : b.length ≤ 4194304) (hb0 : 0 < b.length) (hrd : 0 ≤ rd ∧ rd ≤ 1000000000000) (hm : 1 ≤ most ∧ most ≤ 1000000) :
    Calls Try.prog 15 #[.pointer (some ⟨tb, 0, none⟩), fkv, .int .i64 most] w (ScanLP base tb bv blv fv av b fil cnt rd rows all (ylF key 0 ((rows.map (·.1)).drop (findF (rows.map (·.1)) key))) ((rows.map (·.1)).drop (findF (rows.map (·.1)) key)).length most w) := by
  obtain ⟨ko, kc, rfl, -, -, -⟩ := hk.form
  have hb0' : Below w.heap.size w ((w.alloc (.cells #[.int .i64 most] 3)).alloc (.cells #[.slice none 0 0] 22)) := bel_alloc (bel_alloc (Below.refl _ w) _) _
  have HC := Lib.hid (sscan_any tb (.slice ko key.length kc) key _ (hk.below hb0') hl)
  have HTL := Lib.hid h0.lt
  have HT := Lib.hid (h0.below hb0')
  have HT0 := Lib.hid h0
  have HB0 := Lib.hid hb0'
  have HM := Lib.hid hm
  have HOK := Lib.hid hok
  clear h0 hk hl hb0' hm hok
  obtain ⟨Y, hY⟩ : ∃ Y, (ylF key 0 ((rows.map (·.1)).drop (findF (rows.map (·.1)) key))) = Y := ⟨_, rfl⟩
  obtain ⟨N, hN⟩ : ∃ N, ((rows.map (·.1)).drop (findF (rows.map (·.1)) key)).length = N := ⟨_, rfl⟩
  rw [hY, hN]
  have HYN := Lib.hid (And.intro hY hN)
  clear hY hN
  refine (callsIn_wide (n := 7)).1 ?_
  refine callsIn_of_wp_marks Try.func15 rfl trivial ?_ rfl
  simp only [Try.ntmps15, List.size_toArray, List.length_cons, List.length_nil, Nat.reduceAdd, Nat.reduceSub, Array.replicate_succ, Array.replicate_zero, List.push_toArray, List.append_toArray, List.nil_append, List.cons_append]
  refine wpIn_wide.2 ?_
  go_wp2_with fail
  refine HC.out.mono ?_
  unfold ScanP
  rintro e w1 ⟨kv, rfl, s1, s2, hkv, hb⟩
  rw [World.size_alloc, World.size_alloc] at s1 s2
  have HT1 := Lib.hid (HT.out.below hb)
  have HB1 := Lib.hid (bel_call HB0.out hb)
  have HMB : Hid (w1.heap[w.heap.size]? = some (.cells #[.int .i64 most] 3 (0, 0))) := Lib.hid ((hb.block _ (by simp <;> omega)).trans ((Below.heap_alloc _ _ _ (by simp)).trans (heap_alloc_new w _)))
  have HOB : Hid (w1.heap[w.heap.size + 1]? = some (.cells #[.slice none 0 0] 22 (0, 0))) := Lib.hid ((hb.block _ (by simp)).trans (by have := heap_alloc_new (w.alloc (.cells #[.int .i64 most] 3)) (.cells #[.slice none 0 0] 22); rw [World.size_alloc] at this; exact this))
  have HKV := Lib.hid hkv
  have l1 := World.block_lt_of_cell? w1 ⟨_, 0, none⟩ s1
  have l2 := World.block_lt_of_cell? w1 ⟨_, 0, none⟩ s2
  have HSZ : Hid (w1.heap.size ≥ w.heap.size + 4) := Lib.hid (by simp only at l2; omega)
  clear hkv hb
  go_wp2_with fail
  refine wp_range (σ := ScS) (gf := 78) rfl (enters_of Try.func78 (by kernel_rfl) rfl)
    (fun s W => ScJ w1 W tb (w.heap.size + 1) bv blv fv cnt rd s ∧ s.pre.length < most) (fun s W => ScJ w1 W tb (w.heap.size + 1) bv blv fv cnt rd s ∧ s.pre.length = most) StpC stpC_steps (fun _ _ h => stpC_below h) ?bI ?bX HandS ScS.nx ⟨[], 0, .slice none 0 0, [], 0⟩
    (ScFin Y N) (ScRch Y) (fun s W W' ⟨h, hlt⟩ hb => ⟨h.below hb, hlt⟩) ?seq
    (fun s a₁ W => ∃ (x : En) (kv2 vv2 : Value) (eb : Nat) (v : Value) (os : List EV), a₁ = { tmps := #[.pointer (some ⟨tb, 0, none⟩), .slice ko key.length kc, .int .i64 most, undef, undef, .pointer (some ⟨w.heap.size, 0, none⟩), .slice none 0 0, .pointer (some ⟨w.heap.size + 1, 0, none⟩), .pointer (some ⟨eb, 0, none⟩), undef, .pointer (some ⟨tb, 0, none⟩), .slice ko key.length kc, .func (.func 78) #[] #[.pointer (some ⟨w.heap.size + 1 + 1, 0, none⟩), .pointer (some ⟨w.heap.size + 1 + 1 + 1, 0, none⟩)], .agg #[kv2, .int .u64 x.2.1, .bool x.2.2.1, vv2], undef, undef, undef, undef, undef, undef, undef, undef, undef, undef, undef, undef, undef], defers := [] } ∧ s.rs[s.j]? = some (x, kv2, vv2) ∧ ScJ w1 W tb (w.heap.size + 1) bv blv fv cnt rd s ∧ s.pre.length < most ∧ ScO w1 W (w.heap.size + 1) s v os ∧ v.ownBlock ≠ some eb ∧ W.heap[eb]? = some (.cells #[kv2, .int .u64 x.2.1, .bool x.2.2.1, vv2] 46 (0, 0)) ∧ w1.heap.size ≤ eb) ?hR ?assign ?body ?h0 ?done ?stop
  case bI => exact fun s W l o o' hl ho hc ⟨h, hlt⟩ => ⟨h.put ho hc hl, hlt⟩
  case bX => exact fun s W l o o' hl ho hc ⟨h, hlt⟩ => ⟨h.put ho hc hl, hlt⟩
  case seq =>
    intro l J Jx W hb hJI hJS hY h0
    have h99 := siter_any base tb (w.heap.size + 1) bv blv fv av b fil cnt rd rows all _ _ l kv key most _ J Jx w1 W HT1.out ⟨_, HOB.out⟩ hJI hJS ⟨l1, by have := HTL.out; omega, by omega⟩ ⟨l2, by have := HTL.out; omega, by omega⟩ s1 s2 HKV.out HOK.out hrl hbl hb0 hrd hY h0
    rw [HYN.out.1, HYN.out.2] at h99
    exact h99
  case hR =>
    rintro s a₁ W l o o' hl ho hc ⟨x, kv2, vv2, eb, v, os, h1, h2, h3, h4, h5, h6, h7, h8⟩
    have c : Chg (fun b => b = l) W (W.putObj l o') := Chg.of_grown (grownBy_putObj' W l o') (fun b _ e => by cases e; rfl)
    have nc : ∀ b cur e f, W.heap[b]? = some (.cells cur e f) → b ≠ l := fun b cur e f hb e2 => by
      rw [e2, ho] at hb
      cases hb
      cases hc
    exact ⟨x, kv2, vv2, eb, v, os, h1, h2, h3.put ho hc hl, h4, h5.chg c (fun b cu t hb _ => nc b _ _ _ hb), h6, (c.block _ (Array.getElem?_eq_some_iff.1 h7).1 (nc _ _ _ _ h7)).trans h7, h8⟩
  case assign =>
    rintro l s W v K ⟨hI, hlt⟩ ⟨⟨x, kv2, vv2⟩, hr, rfl⟩ hK
    have hrm : (x, kv2, vv2) ∈ s.rs.drop s.j := List.mem_of_getElem? (i := 0) (by rw [List.getElem?_drop, Nat.add_zero]; exact hr)
    obtain ⟨g1, g2, g3⟩ := hI.good _ hrm
    simp only at g1 g2
    obtain ⟨fo1, fc1, rfl, -, -, -, -⟩ := g1.form
    obtain ⟨to1, tc1, rfl, -, -, -, -⟩ := g2.form
    obtain ⟨v, os, ho⟩ := hI.out
    have HI := Lib.hid hI
    have HO := Lib.hid ho
    have HR := Lib.hid hr
    have hsz := HI.out.chg.size
    clear hI ho g1 g2 g3 hr hrm
    gi_wp2
    exact hK _ _ ((KeepsOthers.alloc _ _).from _) ⟨x, _, _, W.heap.size, v, os, rfl, HR.out, HI.out.below ((Below.refl _ W).alloc (Nat.le_refl _) _), hlt, HO.out.chg (S := fun _ => False) (Chg.of_ext ((Below.refl _ W).alloc (Nat.le_refl _) _)) (fun _ _ _ _ _ h => h), fun e => by have := (HO.out.row.lt _ e).2; omega, heap_alloc_new W _, hsz⟩
  case h0 =>
    refine ⟨⟨Chg.refl _ w1, by simpa using HT1.out.box, ⟨HT1.out.lt, by have := HSZ.out; omega⟩, ⟨.slice none 0 0, [], HOB.out, rfl, World.ownsRow_nil _ _ _ _, fun r hr => (by cases hr), .inl rfl, fun o ho => (by cases ho)⟩, World.ownsRow_nil _ _ _ _, fun r hr => (by simp at hr), List.Pairwise.nil, fun r hr => (by simp at hr)⟩, by have := HM.out; simp; omega⟩
  case done =>
    rintro D s W ⟨hfY, hfn⟩ ⟨hI, hlt⟩ hK hD
    have hI2 := hI.put (o' := .deferred none) hK rfl hD
    obtain ⟨v, os, ho⟩ := hI.out
    have c : Chg (fun b => b = D) W (W.putObj D (.deferred none)) := Chg.of_grown (grownBy_putObj' W D _) (fun b _ e => by cases e; rfl)
    have ho2 := ho.chg c (fun b cur t hb _ e => by
      subst e
      rw [hK] at hb
      cases hb)
    have HF : Hid (OwnEs (W.putObj D (.deferred none)) w.heap.size v ((Y.map (·.1)).take most) ∧ OpI base (W.putObj D (.deferred none)) tb bv blv fv av cnt (rd + scanN Y N most) b fil rows all ∧ Chg (fun b => b = tb) w (W.putObj D (.deferred none))) := Lib.hid (by
      have hYl : Y.length = s.pre.length := by rw [← hfY, List.length_map]
      refine ⟨⟨os, by rw [ho2.map, hfY, List.take_of_length_le (by omega)], ?_, fun r hr => ?_⟩, ?_, ?_⟩
      · rw [hfY, List.take_of_length_le (by omega), ← ho2.map, List.length_map]
        exact own_mono ho2.row HB1.out.size
      · obtain ⟨g1, g2, g3⟩ := ho2.good r hr
        exact ⟨g1.mono HB1.out.size, g2.mono HB1.out.size, g3⟩
      · have h9 := hI2.tab HT1.out ⟨_, HOB.out⟩
        unfold scanN
        rw [if_pos (by omega), ← hfn]
        exact h9
      · exact (Chg.of_ext HB1.out).fresh hI2.chg (fun b hb e => by rcases e with e | e; exact e; omega))
    have t7 : W.cell? ⟨w.heap.size + 1, 0, none⟩ = some v := by rw [cell_of_row _ _ _ _ _ _ ho.bx]; rfl
    obtain ⟨vo, vc, rfl, -, -, -, -⟩ := own_form ho.row
    clear ho ho2 hI hI2 c hfY
    go_wp2_with fail
    refine ⟨by simp, .inl ⟨_, _, rfl, run_takeDeferred hK, ?_⟩⟩
    exact ⟨_, results_tmp rfl _ _ _, .slice vo os.length vc, rfl, HF.out.1, HF.out.2.1, HF.out.2.2⟩
  case stop =>
    rintro D s W ⟨x, hY, hpre⟩ ⟨hI, hlt⟩ hK hD
    have hI2 := hI.put (o' := .deferred none) hK rfl hD
    obtain ⟨v, os, ho⟩ := hI.out
    have c : Chg (fun b => b = D) W (W.putObj D (.deferred none)) := Chg.of_grown (grownBy_putObj' W D _) (fun b _ e => by cases e; rfl)
    have ho2 := ho.chg c (fun b cur t hb _ e => by
      subst e
      rw [hK] at hb
      cases hb)
    have hml : s.pre.length + 1 = most := by rw [← hlt]; unfold ScS.nx; simp
    have HF : Hid (OwnEs (W.putObj D (.deferred none)) w.heap.size v ((Y.map (·.1)).take most) ∧ OpI base (W.putObj D (.deferred none)) tb bv blv fv av cnt (rd + scanN Y N most) b fil rows all ∧ Chg (fun b => b = tb) w (W.putObj D (.deferred none))) := Lib.hid (by
      have hYl := (List.getElem?_eq_some_iff.1 hY).1
      have hpe : (Y.map (·.1)).take most = s.nx.pre := by rw [hpre, ← hml, List.map_take]
      refine ⟨⟨os, by rw [ho2.map, hpe], ?_, fun r hr => ?_⟩, ?_, ?_⟩
      · rw [hpe, ← ho2.map, List.length_map]
        exact own_mono ho2.row HB1.out.size
      · obtain ⟨g1, g2, g3⟩ := ho2.good r hr
        exact ⟨g1.mono HB1.out.size, g2.mono HB1.out.size, g3⟩
      · have h9 := hI2.tab HT1.out ⟨_, HOB.out⟩
        unfold scanN
        rw [if_neg (by omega), show most - 1 = s.pre.length from by omega, hY]
        exact h9
      · exact (Chg.of_ext HB1.out).fresh hI2.chg (fun b hb e => by rcases e with e | e; exact e; omega))
    have t7 : W.cell? ⟨w.heap.size + 1, 0, none⟩ = some v := by rw [cell_of_row _ _ _ _ _ _ ho.bx]; rfl
    obtain ⟨vo, vc, rfl, -, -, -, -⟩ := own_form ho.row
    clear ho ho2 hI hI2 c hY hpre
    go_wp2_with fail
    refine ⟨by simp, .inl ⟨_, _, rfl, run_takeDeferred hK, ?_⟩⟩
    exact ⟨_, results_tmp rfl _ _ _, .slice vo os.length vc, rfl, HF.out.1, HF.out.2.1, HF.out.2.2⟩
  case body =>
    rintro l s a₁ W ⟨x, kv2, vv2, eb, v, os, rfl, hr, hI, hlt, ho, hve, heb, hebl⟩
    obtain ⟨i0, hi0, hz0, hz1, hz2⟩ := info_parts infoEn
    have HI0 := Lib.hid hi0; have HZ0 := Lib.hid hz0; have HZ1 := Lib.hid hz1; have HZ2 := Lib.hid hz2
    have hrm : (x, kv2, vv2) ∈ s.rs.drop s.j := List.mem_of_getElem? (i := 0) (by rw [List.getElem?_drop, Nat.add_zero]; exact hr)
    obtain ⟨h1, h2, hu9⟩ := hI.good _ hrm
    have hsh := hI.sh _ hrm
    simp only at h1 h2 hu9 hsh
    obtain ⟨fo, fc, rfl, -, -, -, -⟩ := h1.form
    obtain ⟨vo9, tc, rfl, -, -, -, -⟩ := h2.form
    obtain ⟨vo, vc, rfl, -, -, -, -⟩ := own_form ho.row
    have HOL : Hid (os.length = s.pre.length) := Lib.hid (by have := congrArg List.length ho.map; simpa using this)
    have hsz := hI.chg.size
    have hs4 := HSZ.out
    have ebl := (Array.getElem?_eq_some_iff.1 heb).1
    have a0 : W.cell? ⟨eb, 0, none⟩ = some (.slice fo x.1.length fc) := by rw [cell_of_row _ _ _ _ _ _ heb]; rfl
    have a1 : W.cell? ⟨eb, 1, none⟩ = some (.int .u64 x.2.1) := by rw [cell_of_row _ _ _ _ _ _ heb]; rfl
    have a2 : W.cell? ⟨eb, 2, none⟩ = some (.bool x.2.2.1) := by rw [cell_of_row _ _ _ _ _ _ heb]; rfl
    have a3 : W.cell? ⟨eb, 3, none⟩ = some (.slice vo9 x.2.2.2.length tc) := by rw [cell_of_row _ _ _ _ _ _ heb]; rfl
    have t7 : W.cell? ⟨w.heap.size + 1, 0, none⟩ = some (.slice vo os.length vc) := by rw [cell_of_row _ _ _ _ _ _ ho.bx]; rfl
    have f7 : W.frozen? ⟨w.heap.size + 1, 0, none⟩ = false := frozen_of_row _ _ _ _ _ ho.bx
    have HMW : Hid (W.heap[w.heap.size]? = some (.cells #[.int .i64 most] 3 (0, 0))) := Lib.hid ((hI.chg.block _ (by omega) (fun e => by have := HTL.out; omega)).trans HMB.out)
    have m0 : W.cell? ⟨w.heap.size, 0, none⟩ = some (.int .i64 most) := by rw [cell_of_row _ _ _ _ _ _ HMW.out]; rfl
    have HC := Lib.hid (copy_any _ _ x W h1.isB h2.isB hsh)
    have O1 := Lib.hid ho.bx
    have O3 := Lib.hid ho.row
    have HII := Lib.hid hI
    have HOO := Lib.hid ho
    have H1 := Lib.hid h1
    have H2 := Lib.hid h2
    have H3 := Lib.hid heb
    have HRR := Lib.hid hr
    have vtyp := own_typed ho.row
    have NOB : Hid (¬ (.slice vo os.length vc : Value).ownBlock = some (w.heap.size + 1)) := Lib.hid fun h => by
      obtain ⟨-, -, cu, hc⟩ := vtyp _ h
      exact absurd (types_apart hc ho.bx) (by decide)
    have NMB : Hid (¬ ((.slice vo os.length vc : Value).ownBlock = some w.heap.size ∨ w.heap.size = w.heap.size + 1)) := Lib.hid fun h => by
      rcases h with h | h
      · obtain ⟨-, -, cu, hc⟩ := vtyp _ h
        exact absurd (types_apart hc HMW.out) (by decide)
      · omega
    have NEB : Hid (¬ ((.slice vo os.length vc : Value).ownBlock = some eb ∨ eb = w.heap.size + 1)) := Lib.hid (fun h => h.elim hve (fun h => by omega))
    have NK : Hid (∀ b, ((.slice fo x.1.length fc : Value).ownBlock = some b ∨ (.slice vo9 x.2.2.2.length tc : Value).ownBlock = some b) → ¬ ((.slice vo os.length vc : Value).ownBlock = some b ∨ b = w.heap.size + 1)) := Lib.hid (fun b hb h => by
      have ht : ∃ cur, W.heap[b]? = some (.cells cur 5 (0, 0)) := by
        rcases hb with hb | hb
        · exact h1.typed b hb
        · exact h2.typed b hb
      obtain ⟨cur, hcur⟩ := ht
      rcases h with h | h
      · obtain ⟨-, -, cu, hc⟩ := vtyp _ h; exact absurd (types_apart hcur hc) (by decide)
      · rw [h] at hcur; exact absurd (types_apart hcur ho.bx) (by decide))
    have NSM : Hid (∀ b, b < w1.heap.size → ¬ ((.slice fo x.1.length fc : Value).ownBlock = some b ∨ (.slice vo9 x.2.2.2.length tc : Value).ownBlock = some b)) := Lib.hid fun b hb h => by
      rcases h with h | h
      · have := (h1.lt b h).1; omega
      · have := (h2.lt b h).1; omega
    clear vtyp ho h1 h2 heb hr hrm hsh hI hu9
    clear hi0 hz0 hz1 hz2
    gi_wp2_with (first
      | (refine ⟨trivial, ?_⟩; gi_at_call 28; refine (CallsIn.inRound l (callsIn_wide.2 HC.out)).mono ?_; unfold OwnP; rintro e w2 ⟨kv3, vv3, rfl, k1, k2, hb⟩; have b0 : w2.cell? ⟨eb, 0, none⟩ = some (.slice fo x.1.length fc) := (hb.cell (p := ⟨eb, 0, none⟩) ebl).trans a0; have b1 : w2.cell? ⟨eb, 1, none⟩ = some (.int .u64 x.2.1) := (hb.cell (p := ⟨eb, 1, none⟩) ebl).trans a1; have b2 : w2.cell? ⟨eb, 2, none⟩ = some (.bool x.2.2.1) := (hb.cell (p := ⟨eb, 2, none⟩) ebl).trans a2; have b3 : w2.cell? ⟨eb, 3, none⟩ = some (.slice vo9 x.2.2.2.length tc) := (hb.cell (p := ⟨eb, 3, none⟩) ebl).trans a3; have p7 : w2.cell? ⟨w.heap.size + 1, 0, none⟩ = some (.slice vo os.length vc) := (hb.cell (p := ⟨w.heap.size + 1, 0, none⟩) (show w.heap.size + 1 < W.heap.size by omega)).trans t7; have q7 : w2.frozen? ⟨w.heap.size + 1, 0, none⟩ = false := (hb.frozen (p := ⟨w.heap.size + 1, 0, none⟩) (show w.heap.size + 1 < W.heap.size by omega)).trans f7; have pm : w2.cell? ⟨w.heap.size, 0, none⟩ = some (.int .i64 most) := (hb.cell (p := ⟨w.heap.size, 0, none⟩) (show w.heap.size < W.heap.size by omega)).trans m0; have K1 := Lib.hid k1; have K2 := Lib.hid k2; obtain ⟨go, gc, rfl, -, -, -, -⟩ := k1.form; obtain ⟨ho, hc9, rfl, -, -, -, -⟩ := k2.form; have GB := Lib.hid hb; have z2 := hb.size; have zb : w.heap.size + 1 < w2.heap.size := (by omega); have z3 := Nat.lt_of_lt_of_le ebl z2; have zm : w.heap.size < w2.heap.size := (by omega); clear k1 k2 hb a0 a1 a2 a3 t7 f7 m0)
      | (gi_at_builtin; refine wpListIn_append_own_at _ rfl _ _ 22 rfl w1.heap.size 46 i0 _ 4 64 Try.underlying22 HI0.out HZ0.out HZ1.out HZ2.out rfl (by decide) (.slice vo os.length vc) os.length (os.flatMap c4) rfl (((own_below O3.out GB.out).alloc _).alloc _) ⟨w2.heap.size + 1, 0, none⟩ 1 1 [.slice go x.1.length gc, .int .u64 x.2.1, .bool x.2.2.1, .slice ho x.2.2.2.length hc9] rfl rfl (new_cells w2 _ _) (by intro u hu; simp only [List.mem_cons, List.not_mem_nil, or_false] at hu; rcases hu with rfl | rfl | rfl | rfl <;> rfl) (by unfold maxLen; have := HM.out; have := HOL.out; omega) (by have := HM.out; have := HOL.out; omega) (by simp; omega) ?_; intro v' w5 ho5 hg5 hv5; have HV5 : Hid (v'.ownBlock = (.slice vo os.length vc : Value).ownBlock ∨ ∃ b, v'.ownBlock = some b ∧ W.heap.size ≤ b) := Lib.hid (by rcases hv5 with h | h; exact .inl h; exact .inr ⟨_, h, by simp; omega⟩); obtain ⟨vo5, vc5, rfl, -, -, -, -⟩ := own_form ho5; have HO5 := Lib.hid ho5; have C5 : Chg (fun b => (.slice vo os.length vc : Value).ownBlock = some b) ((w2.alloc (.cells #[.slice go x.1.length gc, .int .u64 x.2.1, .bool x.2.2.1, .slice ho x.2.2.2.length hc9] 46)).alloc (.cells #[.slice go x.1.length gc, .int .u64 x.2.1, .bool x.2.2.1, .slice ho x.2.2.2.length hc9] 46)) w5 := Chg.of_grown hg5 (fun _ _ h => h); have c6 : Chg (fun b => (.slice vo os.length vc : Value).ownBlock = some b ∨ b = w.heap.size + 1) W (w5.setCell ⟨w.heap.size + 1, 0, none⟩ (.slice vo5 (os.length + 1) vc5)) := ((((Chg.of_ext GB.out).alloc (.cells #[.slice go x.1.length gc, .int .u64 x.2.1, .bool x.2.2.1, .slice ho x.2.2.2.length hc9] 46)).alloc (.cells #[.slice go x.1.length gc, .int .u64 x.2.1, .bool x.2.2.1, .slice ho x.2.2.2.length hc9] 46)).trans (C5.mono (fun b _ h => .inl h))).set (p := ⟨w.heap.size + 1, 0, none⟩) (fun _ => .inr rfl) _; have C6 := Lib.hid c6; have d0 : (w5.setCell ⟨w.heap.size + 1, 0, none⟩ (.slice vo5 (os.length + 1) vc5)).cell? ⟨eb, 0, none⟩ = some (.slice fo x.1.length fc) := (c6.cell ebl (NEB.out)).trans (by rw [cell_of_row _ _ _ _ _ _ H3.out]; rfl); have d1 : (w5.setCell ⟨w.heap.size + 1, 0, none⟩ (.slice vo5 (os.length + 1) vc5)).cell? ⟨eb, 1, none⟩ = some (.int .u64 x.2.1) := (c6.cell ebl (NEB.out)).trans (by rw [cell_of_row _ _ _ _ _ _ H3.out]; rfl); have d2 : (w5.setCell ⟨w.heap.size + 1, 0, none⟩ (.slice vo5 (os.length + 1) vc5)).cell? ⟨eb, 2, none⟩ = some (.bool x.2.2.1) := (c6.cell ebl (NEB.out)).trans (by rw [cell_of_row _ _ _ _ _ _ H3.out]; rfl); have d3 : (w5.setCell ⟨w.heap.size + 1, 0, none⟩ (.slice vo5 (os.length + 1) vc5)).cell? ⟨eb, 3, none⟩ = some (.slice vo9 x.2.2.2.length tc) := (c6.cell ebl (NEB.out)).trans (by rw [cell_of_row _ _ _ _ _ _ H3.out]; rfl); have e7 : w5.cell? ⟨w.heap.size + 1, 0, none⟩ = some (.slice vo os.length vc) := (C5.cell (by simp; omega) NOB.out).trans (by go_simp); have g7 : w5.frozen? ⟨w.heap.size + 1, 0, none⟩ = false := (C5.frozen (by simp; omega) NOB.out).trans (by go_simp); have k6 : OwnS (w5.setCell ⟨w.heap.size + 1, 0, none⟩ (.slice vo5 (os.length + 1) vc5)) w1.heap.size 5 (.slice fo x.1.length fc : Value) x.1 := c6.ownS H1.out (fun b hb => NK.out b (.inl hb)); have v6 : OwnS (w5.setCell ⟨w.heap.size + 1, 0, none⟩ (.slice vo5 (os.length + 1) vc5)) w1.heap.size 5 (.slice vo9 x.2.2.2.length tc : Value) x.2.2.2 := c6.ownS H2.out (fun b hb => NK.out b (.inr hb)); have HMK := Lib.hid (mark_any (fun b => (.slice fo x.1.length fc : Value).ownBlock = some b ∨ (.slice vo9 x.2.2.2.length tc : Value).ownBlock = some b) (.slice fo x.1.length fc : Value) (.slice vo9 x.2.2.2.length tc : Value) x.2.1 x.2.2.1 (w5.setCell ⟨w.heap.size + 1, 0, none⟩ (.slice vo5 (os.length + 1) vc5)) (WrS.of_own k6) (WrS.of_own v6) (fun b h => .inl h) (fun b h => .inr h) (fun b h => (by rcases h with h | h; exact (k6.lt b h).2; exact (v6.lt b h).2))); have HMZ : Hid ((w5.setCell ⟨w.heap.size + 1, 0, none⟩ (.slice vo5 (os.length + 1) vc5)).heap[w.heap.size]? = some (.cells #[.int .i64 most] 3 (0, 0))) := Lib.hid ((c6.block _ (Array.getElem?_eq_some_iff.1 HMW.out).1 NMB.out).trans HMW.out); have HOZ : Hid ((w5.setCell ⟨w.heap.size + 1, 0, none⟩ (.slice vo5 (os.length + 1) vc5)).heap[w.heap.size + 1]? = some (.cells #[.slice vo5 (os.length + 1) vc5] 22 (0, 0))) := Lib.hid (ob_turn (((C5.block (w.heap.size + 1) (by simp; omega) NOB.out).trans (ob_up GB.out O1.out _ _))) _); have HO5B : Hid (w5.heap[w.heap.size + 1]? = some (.cells #[(.slice vo os.length vc : Value)] 22 (0, 0))) := Lib.hid ((C5.block (w.heap.size + 1) (by simp; omega) NOB.out).trans (ob_up GB.out O1.out _ _)); have c5w : Chg (fun b => (.slice vo os.length vc : Value).ownBlock = some b) W w5 := (((Chg.of_ext GB.out).alloc (.cells #[.slice go x.1.length gc, .int .u64 x.2.1, .bool x.2.2.1, .slice ho x.2.2.2.length hc9] 46)).alloc (.cells #[.slice go x.1.length gc, .int .u64 x.2.1, .bool x.2.2.1, .slice ho x.2.2.2.length hc9] 46)).trans C5; have K5 := Lib.hid (c5w.ownS H1.out (fun b hb h => NK.out b (.inl hb) (.inl h))); have V5 := Lib.hid (c5w.ownS H2.out (fun b hb h => NK.out b (.inr hb) (.inl h))); have C26 : Hid (Chg (fun b => (.slice vo os.length vc : Value).ownBlock = some b ∨ b = w.heap.size + 1) w2 (w5.setCell ⟨w.heap.size + 1, 0, none⟩ (.slice vo5 (os.length + 1) vc5))) := Lib.hid (((((Chg.refl _ w2).alloc (.cells #[.slice go x.1.length gc, .int .u64 x.2.1, .bool x.2.2.1, .slice ho x.2.2.2.length hc9] 46)).alloc (.cells #[.slice go x.1.length gc, .int .u64 x.2.1, .bool x.2.2.1, .slice ho x.2.2.2.length hc9] 46)).trans (C5.mono (fun b _ h => .inl h))).set (p := ⟨w.heap.size + 1, 0, none⟩) (fun _ => .inr rfl) _); clear ho5 hg5 hv5 c6 c5w b0 b1 b2 b3 p7 q7 pm k6 v6)
      | (refine ⟨trivial, ?_⟩; gi_at_call 26; refine (CallsIn.inRound l (callsIn_wide.2 HMK.out)).mono ?_; unfold MarkP; rintro e w7 ⟨rfl, hc7, -⟩; have C7 := Lib.hid hc7; have w7m := (hc7.block _ (Array.getElem?_eq_some_iff.1 HMZ.out).1 (NSM.out _ (by omega))).trans HMZ.out; have w7o := (hc7.block _ (Array.getElem?_eq_some_iff.1 HOZ.out).1 (NSM.out _ (by omega))).trans HOZ.out; have x7 : w7.cell? ⟨w.heap.size + 1, 0, none⟩ = some (.slice vo5 (os.length + 1) vc5) := (by rw [cell_of_row _ _ _ _ _ _ w7o]; rfl); have xm : w7.cell? ⟨w.heap.size, 0, none⟩ = some (.int .i64 most) := (by rw [cell_of_row _ _ _ _ _ _ w7m]; rfl); have W7M := Lib.hid w7m; have W7O := Lib.hid w7o; clear hc7 w7m w7o d0 d1 d2 d3 e7 g7))
    all_goals
      have CC : Chg (fun b => ((.slice vo os.length vc : Value).ownBlock = some b ∨ b = w.heap.size + 1) ∨ ((.slice fo x.1.length fc : Value).ownBlock = some b ∨ (.slice vo9 x.2.2.2.length tc : Value).ownBlock = some b)) W w7 := (C6.out.mono (fun b _ h => .inl h)).trans (C7.out.mono (fun b _ h => .inr h))
      have vt := own_typed O3.out
      have HKF : KeepsFrom w1.heap.size W w7 := ⟨CC.size, fun k o _ hk ho => (CC.block k (Array.getElem?_eq_some_iff.1 hk).1 (fun h => by
        have nc : ∀ cur e f, W.heap[k]? = some (.cells cur e f) → False := fun cur e f h9 => by
          rw [hk] at h9
          cases h9
          cases ho
        rcases h with (h | h) | (h | h)
        · obtain ⟨-, -, cu, hc⟩ := vt k h; exact nc _ _ _ hc
        · subst h; exact nc _ _ _ O1.out
        · obtain ⟨cu, hc⟩ := H1.out.typed k h; exact nc _ _ _ hc
        · obtain ⟨cu, hc⟩ := H2.out.typed k h; exact nc _ _ _ hc)).trans hk⟩
      have C57 : Chg (fun b => b = w.heap.size + 1 ∨ ((.slice fo x.1.length fc : Value).ownBlock = some b ∨ (.slice vo9 x.2.2.2.length tc : Value).ownBlock = some b)) w5 w7 := ((Chg.refl _ w5).set (p := ⟨w.heap.size + 1, 0, none⟩) (fun _ => .inl rfl) (.slice vo5 (os.length + 1) vc5)).trans (C7.out.mono (fun b _ h => .inr h))
      have C27 : Chg (fun b => ((.slice vo os.length vc : Value).ownBlock = some b ∨ b = w.heap.size + 1) ∨ ((.slice fo x.1.length fc : Value).ownBlock = some b ∨ (.slice vo9 x.2.2.2.length tc : Value).ownBlock = some b)) w2 w7 := (C26.out.mono (fun b _ h => .inl h)).trans (C7.out.mono (fun b _ h => .inr h))
      have own7 := C57.own HO5.out (fun b hb h => by
        obtain ⟨-, -, cu, hc⟩ := own_typed HO5.out b hb
        rcases h with h | h | h
        · subst h; exact absurd (types_apart hc HO5B.out) (by decide)
        · obtain ⟨cu2, hc2⟩ := K5.out.typed b h; exact absurd (types_apart hc hc2) (by decide)
        · obtain ⟨cu2, hc2⟩ := V5.out.typed b h; exact absurd (types_apart hc hc2) (by decide))
      have new7 : ∀ {u : Value} {l9 : List Int}, OwnS w2 W.heap.size 5 u l9 → OwnS w7 W.heap.size 5 u l9 := fun hu => C27.ownS hu (fun b hb h => by
        have h9 := (hu.lt b hb).1
        rcases h with (h | h) | (h | h)
        · have := (vt b h).2.1; omega
        · omega
        · have := (H1.out.lt b h).2; omega
        · have := (H2.out.lt b h).2; omega)
      have HSC : ScJ w1 w7 tb (w.heap.size + 1) bv blv fv cnt rd s.nx := HII.out.turn HOO.out HRR.out CC W7O.out own7 HV5.out (new7 K1.out) (new7 K2.out)
      have hnl : s.nx.pre.length = s.pre.length + 1 := by unfold ScS.nx; simp
      have hol := HOL.out
      refine ⟨HKF, HSC, ?_⟩
      omega
end Ss
end Go.Proofs.Ytmojbamloanleaa
