/- Proved: RangemetaLearns answers true for every input, and leaves its arguments as they were. No other condition. -/
import Derived.Test.YtbeniogffhihlaaRmLearnsW
import Derived.Test.YtbeniogffhihlaaRead
set_option linter.unusedVariables false
set_option linter.unusedSimpArgs false
namespace Go.Proofs.Ytbeniogffhihlaa.rangemetaLearns
open Go.ChangeShapes Go.WideShapes Go.ChangeAt Go.RowKit Go.Joins
open Go.ChangeMaps (open_string shut_string)
theorem own : ownKnob Try.prog.godebug = none := by kernel_rfl
theorem laidOut : laidOutB Try.prog = true := by kernel_rfl
theorem cellsU8 : Try.prog.cellsOf 5 = 1 := by kernel_rfl
theorem bytesU8 : Try.prog.bytesOf 5 = 1 := by kernel_rfl
set_option maxRecDepth 100000 in
theorem lifted (os : Os) (started : os.Started) (H : Type) (enc : TypeId × Value → H) :
    ReturnsInHanded {} Try.checked os 6 .any (Rows.rangemetaLearnsSpec.pre6 enc Try.prog Try.f6 Rows.rangemetaLearnsRow.domain false) (Rows.rangemetaLearnsSpec.post enc Try.prog Try.f6 false true false false) := by
  refine returnsInHanded_of_change_sized (C := Try.checked) own started (by kernel_rfl) Try.func6
    (ChangeSpec.witness6 (enc := enc) (C := Try.checked) false ⟨#[], #[.slice none 0 0, .slice none 0 0, .slice none 0 0], []⟩ 8 (by kernel_rfl) (by kernel_rfl) (by kernel_rfl) (by kernel_rfl)) ?_
  intro W base args ds gs before hval0 hW hcnd hsz0 _
  have hval : ∀ (j : Nat) t v, Try.f6.params[j]? = some t → args[j]? = some v → Value.okWide Try.prog W .any base t v := hval0
  have hW' := hW
  obtain ⟨p, q, hA0, hV, rfl, hfz, hnd⟩ := hW
  have hA : DataW.TrodAll enc Try.prog W 0 (fun _ => true) true Try.f6.params.toList args.toList ds p := hA0
  have hsz : (DataW.weightsEach Try.prog (Try.f6.params.toList ++ Rows.rangemetaLearnsSpec.plain.varTypes Try.prog) (ds ++ gs)).all (· ≤ reachBytes) = true := hsz0
  rw [Try.params6] at hA hval hsz
  obtain ⟨v0, vs0, d0, ds0, p0, q0, hargs, rfl, rfl, h0, r0⟩ := trodAll_cons hA
  obtain ⟨v1, vs1, d1, ds1, p1, q1, rfl, rfl, rfl, h1, r1⟩ := trodAll_cons r0
  obtain ⟨v2, vs2, d2, ds2, p2, q2, rfl, rfl, rfl, h2, r2⟩ := trodAll_cons r1
  obtain ⟨rfl, rfl, rfl⟩ := trodAll_nil r2
  obtain rfl : args = #[v0, v1, v2] := by cases args; simp_all
  obtain ⟨rfl, rfl⟩ := trodVars_none hV
  have k0 := h0
  have lt0 : ∀ x ∈ p0, x.block < W.heap.size := by obtain ⟨m, hm⟩ := k0; exact DataW.trod_lt m _ _ _ hm
  have k1 := h1
  have lt1 : ∀ x ∈ p1, x.block < W.heap.size := by obtain ⟨m, hm⟩ := k1; exact DataW.trod_lt m _ _ _ hm
  have k2 := h2
  have lt2 : ∀ x ∈ p2, x.block < W.heap.size := by obtain ⟨m, hm⟩ := k2; exact DataW.trod_lt m _ _ _ hm
  obtain ⟨ao0, len0, cap0, rfl⟩ := okWide_slice Try.underlying22 (hval 0 22 v0 rfl rfl)
  obtain ⟨xd0, RD0, FT0, BK0⟩ := open_says Rm.scsMt h0
  replace FT0 := FT0 reachBytes (sized_arg hsz (j := 0) (t := 22) rfl rfl)
  obtain ⟨l0, B0⟩ := Rm.scs_open RD0 FT0
  obtain ⟨ao1, len1, cap1, rfl⟩ := okWide_slice Try.underlying56 (hval 1 56 v1 rfl rfl)
  obtain ⟨xd1, RD1, FT1, BK1⟩ := open_says Rm.wssMt h1
  replace FT1 := FT1 reachBytes (sized_arg hsz (j := 1) (t := 56) rfl rfl)
  obtain ⟨l1, B1⟩ := Rm.ws_open RD1 FT1
  obtain ⟨l2, B2, D2⟩ := open_isB Try.underlying23 Try.underlying5 cellsU8 (hval 2 23 v2 rfl rfl) h2
  have bl2 : l2.length ≤ 140737488351232 := by
    rcases D2 with rfl | ⟨elems, sp, rfl, he⟩
    · simp
    · have := sized_slice hsz (j := 2) (t := 23) (e := 5) rfl rfl Try.underlying23
      rw [bytesU8] at this; simp only [reachBytes] at this; omega
  clear hA0 hval0
  refine (Rm.learns_walk (.slice ao0 len0 cap0) (.slice ao1 len1 cap1) v2 l0 l1 l2 W B0 B1 B2).mono fun e W' ⟨he, bel⟩ => ?_
  subst he
  exact ⟨_, rfl, _, _, _, [], _, [], hW', trodAll_mk1 (shut_bool Try.underlying4 _), (trodAll_cons_mk (Below.trod laidOut (by kernel_rfl) (of_decide_eq_true (by kernel_rfl)) k0 bel lt0) (trodAll_cons_mk (Below.trod laidOut (by kernel_rfl) (of_decide_eq_true (by kernel_rfl)) k1 bel lt1) (trodAll_cons_mk (Below.trod laidOut (by kernel_rfl) (of_decide_eq_true (by kernel_rfl)) k2 bel lt2) trodAll_mk0))), rfl, bel.frame _, fun h => by cases h⟩

theorem proved : Rows.RangemetaLearnsSaid :=
  OpenClaim.holds_of_wide 6 Try.f6 rfl rfl rfl rfl rfl rfl rfl ⟨rfl, rfl, rfl, rfl, rfl⟩ rfl rfl rfl rfl rfl (by kernel_rfl) Try.func6 (by kernel_rfl)
    (of_decide_eq_true (by kernel_rfl)) (by unfold Func.isWrapper; first | (rw [if_pos (by decide +kernel)]; kernel_rfl) | (rw [if_neg (by decide +kernel)]; exact ⟨rfl, rfl⟩))
    (fun os started H enc _ => lifted os started H enc)
#print axioms proved
end Go.Proofs.Ytbeniogffhihlaa.rangemetaLearns
