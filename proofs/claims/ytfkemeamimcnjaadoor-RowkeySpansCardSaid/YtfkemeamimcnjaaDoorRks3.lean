/- PM: a walk told by what lies below a number of blocks alone. No program in sight. -/
import Derived.Test.YtfkemeamimcnjaaDoorPmD
set_option linter.unusedVariables false
set_option linter.unusedSimpArgs false
namespace Go.Proofs.YtfkemeamimcnjaaDoor
open Go.RowKit
namespace PM
section
variable {P : Program} {B : Nat}
/-- what is not to be turned: all blocks below B -/
def oldG (B : Nat) (G : Gh) : Prop := ∀ b o, G.av b o ↔ b < B
def PWB (B : Nat) (P : Program) (c : Code) (Q : Exit → St → Prop) (s : St) : Prop := ∀ G a w, StR G s a w → oldG B G → B ≤ w.heap.size → c.wp P (fun e a' w' => ∃ G' s', StR G' s' a' w' ∧ oldG B G' ∧ Below B w w' ∧ Q e s') a w
theorem mut_new {G : Gh} {m : Mem} {w : World} (hm : MemR G m w) (ho : oldG B G) {b o : Nat} (h : Mut G m b o) : B ≤ b := by
  have key : (∀ o, ¬ G.av b o) → B ≤ b := fun h => by
    have h1 := h 0
    rw [ho] at h1
    omega
  rcases h with ⟨id, e, cs, h1, rfl⟩ | ⟨r, i, h1, h2, -⟩
  · exact key (hm.box id e cs h1).2
  · exact key ((hm.row r i h1).2.2 b h2).2.2.2
theorem Ev.belowB {G G' : Gh} {m m' : Mem} {w w' : World} (h : Ev G m w G' m' w') (hm : MemR G m w) (ho : oldG B G) (hB : B ≤ w.heap.size) : Below B w w' :=
  ⟨h.fr.os, h.fr.tape, h.fr.output, h.fr.size, fun b hb => h.fr.block b (by omega) fun o hk => by have := mut_new hm ho hk; omega⟩
theorem Ev.old {G G' : Gh} {m m' : Mem} {w w' : World} (h : Ev G m w G' m' w') (ho : oldG B G) : oldG B G' := fun b o => by rw [h.av]; exact ho b o
theorem PWB.of {c : Code} {Q : Exit → St → Prop} {s : St} (h : PW P c Q s) : PWB B P c Q s := fun G a w hs ho hB =>
  wp_mono (h G a w hs) fun _e _a' _w' ⟨G', s', k1, k2, k3⟩ => ⟨G', s', k1, k2.old ho, k2.belowB hs.mem ho hB, k3⟩
theorem PWB.seq {x y : Code} {Q : Exit → St → Prop} {s : St} (h : ∀ K : St → Prop, (∀ s', PWB B P y Q s' → K s') → PWB B P x (thenP K Q) s) : PWB B P (.seq x y) Q s := by
  intro G a w hs ho hB
  refine wp_seq (wp_mono (h _ (fun _ h => h) G a w hs ho hB) fun e a' w' ⟨G', s', k1, k2, k3, k4⟩ => ?_)
  cases e <;> simp only [Exit.then] <;> simp only [thenP] at k4
  case normal => exact wp_mono (k4 G' a' w' k1 k2 (Nat.le_trans hB k3.size)) fun e a'' w'' ⟨G'', s'', q1, q2, q3, q4⟩ => ⟨G'', s'', q1, q2, k3.trans q3, q4⟩
  all_goals exact ⟨G', s', k1, k2, k3, k4⟩
/-- the first operations of a list -/
theorem ops_split {ops : Array Oper} {Q : Exit → Act → World → Prop} {s0 : St} {G0 : Gh} {w0 : World} {K : St → Prop} {l2 : List Oper} (hQ : ∀ G' s' a' w', StR G' s' a' w' → Ev G0 s0.m w0 G' s'.m w' → K s' → wpList P ops Q l2 a' w') : ∀ (l : List Oper) (s : St) (G : Gh) (a : Act) (w : World), opsP P ops l K s → StR G s a w → Ev G0 s0.m w0 G s.m w → wpList P ops Q (l ++ l2) a w
  | [], s, G, a, w, h, hs, hev => hQ G s a w hs hev h
  | o :: rest, s, G, a, w, h, hs, hev => by
    unfold opsP at h
    rw [List.cons_append]
    unfold wpList
    rcases want_sound hs h with ⟨h1, h2⟩ | ⟨h1, h2⟩
    · rw [if_pos h1]
      refine .inl (op_sound hs.mem hs.ev o h2 fun v w' r G' m' k1 k2 k3 k4 => ?_)
      refine ops_split hQ rest _ G' _ w' k4 (hs.put k1 k2 k3 o.dst) ?_
      have : ∀ d x, (({ s with m := m' } : St).put d x).m = m' := fun d x => by unfold St.put; cases d <;> simp only; split <;> rfl
      rw [this]
      exact hev.trans k2
    · rw [if_neg (by rw [h1]; simp)]
      refine ops_split hQ rest _ G _ w h2 (hs.put hs.mem (.refl _ _ _) relA_undef o.dst) ?_
      have : ∀ d x, (s.put d x).m = s.m := fun d x => by unfold St.put; cases d <;> simp only; split <;> rfl
      rw [this]
      exact hev
theorem PWB.seqR {id : Nat} {ops : Array Oper} {d : Bool} {y : Code} {Q : Exit → St → Prop} {s : St} (h : ∀ K : St → Prop, (∀ s', PWB B P y Q s' → K s') → PW P (.region id ops d) (thenP K Q) s) : PWB B P (.seq (.region id ops d) y) Q s := PWB.seq fun K hK => PWB.of (h K hK)
/-- the law's call -/
theorem wp_call_op {o : Oper} {x : Operand} {args : Array Operand} {ts : Array TypeId} {f : Nat} {a : Act} {w : World} {next : Act → World → Prop} {Q : Exit → Act → World → Prop} {R : Value → World → Prop} (ho : o.op = .call ⟨.value x, args, ts⟩)
    (hx : a.eval x = .func (.func f) #[] #[]) (hrun : Runs P f (args.toList.map a.eval) w R) (hn : ∀ v w', R v w' → next (a.put o.dst v) w') : o.wp P a w next Q := by
  obtain ⟨dst, op, ty, pos, after, guard⟩ := o
  simp only at ho hn
  subst ho
  have hexec : (execOp a.eval ⟨dst, .call ⟨.value x, args, ts⟩, ty, pos, after, guard⟩).run P w = (callFunc f (args.toList.map a.eval).toArray).run P w := by
    have : (args.toList.map a.eval).toArray = #[] ++ args.map a.eval ++ #[] := by simp [← Array.toList_map]
    rw [this]
    simp only [execOp, resolve, hx, Deferred.ofValue, Sem.run_bind, Sem.run_pure, Result.andThen_ok, invoke]
  unfold Oper.wp
  rw [hexec]
  unfold Runs at hrun
  split at hrun
  · rename_i g ar w1 heq
    rw [heq, Oper.upon_enter]
    refine hrun.mono fun e w' ⟨v, he', k⟩ => ?_
    subst he'
    exact hn v w' k
  · rename_i v w1 heq
    rw [heq, Oper.upon_value]
    exact hn v w1 hrun
  · exact hrun.elim
def Gold (B : Nat) : Gh := ⟨fun _ => 0, fun _ => none, fun _ => 0, fun b _ => b < B⟩
theorem gold_old : oldG B (Gold B) := fun _ _ => Iff.rfl
theorem gold_mem {w : World} (h : B ≤ w.heap.size) : MemR (Gold B) nom w := ⟨fun b _ hb => Nat.lt_of_lt_of_le hb h, fun id e cs hh => by simp [nom] at hh, fun r i hh => by simp [nom] at hh, fun i j x y hh => by simp [nom] at hh, fun i j x y g hh => by simp [nom] at hh, fun i j x y hh => by simp [nom] at hh⟩
theorem calls_of_pwb {f : Nat} {fn : Func} {c : Code} {rs : List ResultVar} (hf : P.funcs[f]? = some fn) (hb : fn.body = some c) (hrs : fn.results = rs.toArray) {args : List AV} {vs : List Value} {w : World} {r : AV} (nt : Nat) (hnt : args.length + (fn.ntmps - args.length) = nt)
    (ha : RelAs (Gold w.heap.size) nom w args vs) (h : PWB w.heap.size P c (retQ P rs fun x _ => Co (fg 0 0 x) r) ⟨iniT args, nt, nom⟩) : Calls P f vs.toArray w fun e w' => ∃ v G', e = .returned v ∧ Below w.heap.size w w' ∧ RelA G' nom w' r v := by
  have hl := ha.len
  refine calls_of_wp hf hb ?_
  have hst : StR (Gold w.heap.size) ⟨iniT args, nt, nom⟩ { tmps := vs.toArray ++ Array.replicate (fn.ntmps - vs.toArray.size) undef, defers := [] } w := by
    refine ⟨gold_mem (Nat.le_refl _), fun i => ?_, by simp; omega, rfl⟩
    show RelA _ nom w (iniT args i) _
    unfold iniT
    rcases Nat.lt_or_ge i args.length with hi | hi
    · have h1 : args[i]? = some args[i] := List.getElem?_eq_getElem hi
      obtain ⟨v, hv, hr⟩ := ha.get h1
      have e1 : args.getD i (.tup []) = args[i] := by simp [List.getD, hi]
      have e2 : (vs.toArray ++ Array.replicate (fn.ntmps - vs.toArray.size) undef).getD i undef = v := by
        rw [Array.getD_eq_getD_getElem?, Array.getElem?_append_left (by simp; omega)]
        simp [hv]
      rw [e1, e2]
      exact hr
    · have e1 : args.getD i (.tup []) = .tup [] := by simp [List.getD, List.getElem?_eq_none hi]
      have e2 : (vs.toArray ++ Array.replicate (fn.ntmps - vs.toArray.size) undef).getD i undef = undef := by
        rw [Array.getD_eq_getD_getElem?, Array.getElem?_append_right (by simp; omega)]
        rw [Array.getElem?_replicate]
        split <;> rfl
      rw [e1, e2]
      exact relA_undef
  have fin : ∀ s a' w' G', StR G' s a' w' → Below w.heap.size w w' → resP P s rs (fun l => (fun x => Co (fg 0 0 x) r) (tupA l)) →
      a'.defers = [] ∧ ∃ v, (results fn a'.tmps).run P w' = .ok v w' ∧ ∃ v' G'', Ending.returned v = .returned v' ∧ Below w.heap.size w w' ∧ RelA G'' nom w' r v' := by
    intro s a' w' G' k1 k2 k3
    obtain ⟨x, v, q1, q2, q3⟩ := results_run (K := fun x => Co (fg 0 0 x) r) hrs k1 k3
    obtain ⟨-, -, b3, b4⟩ := subM_nom s.m
    have sb : ∀ (j : Nat) e cs, nom.box[j]? = some (some (e, cs)) → ∃ cs', s.m.box[j]? = some (some (e, cs')) := fun j e cs h => by simp [nom] at h
    exact ⟨k1.df, v, q1, v, G', rfl, k2, co_rel _ _ _ q3 (RelA.fg sb b4 (Nat.le_refl _) (Nat.le_refl _) x v q2)⟩
  refine wp_mono (h _ _ w hst gold_old (Nat.le_refl _)) fun e a' w' ⟨G', s', k1, k2, k3, k4⟩ => ?_
  cases e <;> simp only [retQ] at k4
  case normal => exact fin s' a' w' G' k1 k3 k4
  case ret => exact fin s' a' w' G' k1 k3 k4
end
end PM
end Go.Proofs.YtfkemeamimcnjaaDoor
