/- memtable: slices appended; New (walk). -/
import Derived.Test.YtgkgfghmpimaoaaMt9
set_option linter.unusedVariables false
set_option linter.unusedSimpArgs false
namespace Go.Proofs.Ytgkgfghmpimaoaa
open Go.RowKit
section
variable {P : Program} {w : World}
/-- a slice whose m elements (size cells each) are these cells -/
def SlC (w : World) (u : Value) (size m : Nat) (xs : List Value) : Prop := ∃ ao cap, u = .slice ao m cap ∧ xs.length = m * size ∧ m ≤ maxLen ∧ (ao = none → m = 0 ∧ cap = 0) ∧ ∀ ad, ao = some ad → ∀ j y, xs[j]? = some y → w.cell? (ad.add j) = some y
theorem wpList_append_slc {ops : Array Oper} {rest : List Oper} {o : Oper} {a : Act} {Q : Exit → Act → World → Prop} {base n size : Nat} {e : TypeId} {v : Value} {xs : List Value} (s x : Operand) (t : TypeId) (hgd : o.guard = none)
    (ho : o.op = .call { callee := .builtin .append, args := #[s, x], argTypes := #[t, t] })
    (i : TypeInfo) (z : Value) (bytes : Nat) (ht : P.underlying t = some (.slice e)) (hi : P.info? e = some i) (hz : i.zero = some z)
    (hsize : i.size = size) (hby : i.bytes = bytes) (hzs : z.cells.size = size) (hsz : 0 < size) (u : Value) (m : Nat) (news : List Value) (hs : a.eval s = v) (hx : a.eval x = u)
    (hown : w.ownsRow base e size v n xs) (hu : SlC w u size m news) (h1 : ∀ y ∈ news, y.oneCell' = true) (h63 : n + m ≤ maxLen) (hn : (n + m) * bytes ≤ 140737488355328) (hbase : base ≤ w.heap.size)
    (h : ∀ v' w1, w1.ownsRow base e size v' (n + m) (xs ++ news) → w.grownBy w1 v.ownBlock → wpList P ops Q rest (a.put o.dst v') w1) :
    wpList P ops Q (o :: rest) a w := by
  obtain ⟨ao, cap, rfl, h2, h3, h4, h5⟩ := hu
  rcases ao with _ | ad
  · obtain ⟨rfl, rfl⟩ := h4 rfl
    have hn0 : news = [] := List.eq_nil_of_length_eq_zero (by rw [h2, Nat.zero_mul])
    subst hn0
    refine wpList_plain hgd fun K hK => ?_
    unfold Oper.wp execOp
    have hrun : (Builtin.append_ #[t, t] o.type #[v, .slice none 0 0]).run P w = .ok v w := by
      rcases hown.2 with ⟨rfl, rfl⟩ | ⟨g, cap, cur, rfl, _, _, hnc, _⟩
      · simp [Builtin.append_, run_underlying ht, sizeOf, typeInfo, hi, Builtin.lenOf, Builtin.firstCells]
      · simp [Builtin.append_, run_underlying ht, sizeOf, typeInfo, hi, Builtin.lenOf, Builtin.firstCells, hnc, storeCells]
    simp only [ho, resolve, invoke, builtin, Sem.run_bind, Sem.run_pure, Result.andThen_ok, List.map_toArray, List.map_cons, List.map_nil, hs, hx, hrun]
    exact hK _ _ (h v w (by simpa using hown) (gb_refl w _))
  · refine wpList_append_own w hgd s x t ho base e i z size bytes ht hi hz hsize hby hzs hsz v n _ hs hown ad m cap news hx h2 (h5 ad rfl) h1 h63 hn hbase ?_
    intro v' w1 k1 k2 _
    exact h v' w1 k1 k2
end
namespace Mt
def inR (_ : World) (cs : List Value) (x : Int) : Prop := cs = [.int .i64 x] ∧ I64 x
theorem inR_stays : Stays inR := fun _ _ _ _ _ h => h
abbrev IsI (w : World) (v : Value) (l : List Int) : Prop := IsL 1 inR w v l
theorem IsI.slc {w : World} {v : Value} {l : List Int} (h : IsI w v l) : SlC w v 1 l.length (l.map (Value.int .i64)) := by
  obtain ⟨ao, cap, h1, h2, h3, h4, h5⟩ := h
  refine ⟨ao, cap, h1, by simp, by omega, fun hn => ⟨by rw [(h4 hn).1]; rfl, (h4 hn).2⟩, fun ad hao j y hy => ?_⟩
  rw [List.getElem?_map, Option.map_eq_some_iff] at hy
  obtain ⟨x, hx, rfl⟩ := hy
  obtain ⟨b, o, cs, q1, q2, q3, q4, q5, -⟩ := h5 j x hx
  rw [hao] at q1
  cases q1
  rw [plain_add']
  have := q4 0 (.int .i64 x) (by rw [q5]; rfl)
  simpa using this
theorem IsI.rng {w : World} {v : Value} {l : List Int} (h : IsI w v l) : ∀ x ∈ l, I64 x := fun x hx => by
  obtain ⟨i, hi⟩ := List.mem_iff_getElem?.1 hx
  obtain ⟨ao, cap, h1, h2, h3, h4, h5⟩ := h
  obtain ⟨b, o, cs, q1, q2, q3, q4, q5, q6⟩ := h5 i x hi
  exact q6
theorem infoI : (Try.prog.info? 3).map (fun i => (i.zero, i.size, i.bytes)) = some (some (.int .i64 0), 1, 8) := by kernel_rfl
def ClonIP (l : List Int) (w : World) (e : Ending) (w' : World) : Prop := ∃ v, e = .returned v ∧ w'.ownsRow w.heap.size 3 1 v l.length (l.map (Value.int .i64)) ∧ Below w.heap.size w w'
set_option maxRecDepth 100000 in
set_option maxHeartbeats 1000000 in
theorem cloneI_any (v : Value) (l : List Int) (w : World) (h : IsI w v l) (hl : l.length ≤ 17592186044416) : Calls Try.prog 27 #[v] w (ClonIP l w) := by
  obtain ⟨i0, hi0, hz0, hz1, hz2⟩ := info_parts infoI
  have HI := Lib.hid hi0; have HZ0 := Lib.hid hz0; have HZ1 := Lib.hid hz1; have HZ2 := Lib.hid hz2
  have qn := fun (w : World) (a : Option Addr) (n c n' c' : Nat) => Lib.run_eql_slice_nil (P := Try.prog) w 22 3 a n c n' c' Try.underlying22
  have HB := Lib.hid h
  obtain ⟨ao, cap, rfl, -, -, hnone, -⟩ := h
  have HL := Lib.hid hl
  have OL : Hid ((w.alloc (.cells #[] 3)).ownsRow w.heap.size 3 1 (.slice (some ⟨w.heap.size, 0, none⟩) 0 0) 0 (#[] : Array Value).toList) := Lib.hid (World.ownsRow_lit w #[] 0 (Nat.le_refl _) (by simp [maxLen]) (by simp))
  clear hi0 hz0 hz1 hz2 hl
  cases ao with
  | none =>
    obtain ⟨rfl, rfl⟩ := hnone rfl
    go_enter Try.func27, Try.ntmps27
    go_wp2_with fail
    go_ret
    exact ⟨_, rfl, World.ownsRow_nil _ _ _ _, Below.refl _ _⟩
  | some a =>
    clear hnone
    go_enter Try.func27, Try.ntmps27
    go_wp2_with (at_builtin; refine wpList_append_slc (w := w.alloc (.cells #[] 3)) (base := w.heap.size) (.tmp 5) (.tmp 6) _ rfl rfl i0 _ 8 Try.underlying22 HI.out HZ0.out HZ1.out HZ2.out rfl (by decide) _ l.length (l.map (Value.int .i64)) rfl rfl (World.ownsRow_lit w #[] 0 (Nat.le_refl _) (by simp [maxLen]) (by simp)) (IsI.slc (HB.out.alloc inR_stays _)) (ints_oneCell _ _) (by have := HL.out; unfold maxLen; omega) (by have := HL.out; omega) (by simp) ?_; intro v2 w2 hown2 hb2; have HO2 : Hid (w2.ownsRow w.heap.size 3 1 v2 l.length (l.map (Value.int .i64))) := Lib.hid (by simpa using hown2); have G2 := Lib.hid (bel_own (bel_alloc (Below.refl _ w) (.cells #[] 3)) hb2 OL.out); clear hown2 hb2)
    go_ret
    exact ⟨_, rfl, HO2.out, G2.out⟩
theorem made_ptr (n : Nat) : (madeCells (Value.pointer none).cells (n * 1)).toList = List.replicate n (.pointer none) := by
  refine List.eq_replicate_iff.2 ⟨by simp [size_madeCells], fun u hu => ?_⟩
  unfold madeCells at hu
  rw [Array.toList_map, List.mem_map] at hu
  obtain ⟨k, -, rfl⟩ := hu
  simp [Value.cells, Nat.mod_one]
theorem make12 (w : World) (base : Nat) (hb : base ≤ w.heap.size) : ∃ w', (Instr.makeSlice 55 (.int .i64 12) (.int .i64 12)).run Try.prog w = .ok (.slice (some ⟨w.heap.size, 0, none⟩) 12 12) w' ∧
    w'.ownsRow base 54 1 (.slice (some ⟨w.heap.size, 0, none⟩) 12 12) 12 (madeCells (Value.pointer none).cells (12 * 1)).toList ∧ w.grownBy w' none := by
  obtain ⟨j0, hi0, hz0, hz1, hz2⟩ := info_parts infoPt
  exact run_makeSlice_full (P := Try.prog) w base 55 54 j0 (.pointer none) 1 Try.underlying55 hi0 hz0 hz1 .i64 .i64 12 (by omega) (by rw [hz2]; omega) (by unfold maxLen; omega) hb
def NewP (hs : List Int) (w : World) (e : Ending) (w' : World) : Prop := ∃ tb hd, e = .returned (.pointer (some ⟨tb, 0, none⟩)) ∧ TabI (fun k => w.heap.size ≤ k ∧ k < w'.heap.size) w' tb hs hd [] ∧ Below w.heap.size w w'
theorem newP_of {w wy : World} {hs : List Int} {hv : Value} {r bn : Nat} (hI : ∀ h ∈ hs, I64 h) (ho : wy.ownsRow w.heap.size 3 1 hv hs.length (hs.map (Value.int .i64)))
    (hr : wy.ownsRow w.heap.size 54 1 (.slice (some ⟨r, 0, none⟩) 12 12) 12 (madeCells (Value.pointer none).cells (12 * 1)).toList) (hn : wy.heap[bn]? = some (.cells #[.slice none 0 0, .int .u64 0, .bool false, .slice none 0 0, .slice (some ⟨r, 0, none⟩) 12 12] 57 (0, 0))) (hbn : w.heap.size ≤ bn) (hb : Below w.heap.size w wy) :
    NewP hs w (.returned (.pointer (some ⟨wy.heap.size, 0, none⟩))) (wy.alloc (.cells #[hv, .pointer (some ⟨bn, 0, none⟩), .int .i64 0, .int .i64 0] 59)) := by
  obtain ⟨cur, hg, hc, -, -, hs1, ht⟩ := own_row hr
  have hlt := (Array.getElem?_eq_some_iff.1 hc).1
  have hbl := (Array.getElem?_eq_some_iff.1 hn).1
  have hb1 := (Below.refl wy.heap.size wy).alloc (Nat.le_refl _) (.cells #[hv, .pointer (some ⟨bn, 0, none⟩), .int .i64 0, .int .i64 0] 59)
  have hbw : Below w.heap.size w _ := bel_call hb hb1
  have hN : NdI (fun k => w.heap.size ≤ k ∧ k < (wy.alloc (.cells #[hv, .pointer (some ⟨bn, 0, none⟩), .int .i64 0, .int .i64 0] 59)).heap.size) (wy.alloc (.cells #[hv, .pointer (some ⟨bn, 0, none⟩), .int .i64 0, .int .i64 0] 59)) ⟨bn, r, .slice none 0 0, .slice none 0 0, zeroE, 12⟩ :=
    ⟨(hb1.block bn hbl).trans hn, ⟨cur, (hb1.block r hlt).trans hc, by simpa using hs1⟩, ownS_nil, ownS_nil, ⟨hbn, by simp; omega⟩, ⟨hg, by simp; omega⟩, fun b h => (by cases h), fun b h => (by cases h), ⟨by simp [zeroE], by simp [zeroE]⟩, (by decide : (1 : Nat) ≤ 12 ∧ (12 : Nat) ≤ 12), ⟨by simp [zeroE], by simp [zeroE]⟩⟩
  refine ⟨_, ⟨bn, r, .slice none 0 0, .slice none 0 0, zeroE, 12⟩, rfl, ⟨⟨hv, heap_alloc_new wy _, own_below (own_mono ho (Nat.zero_le _)) hb1, fun b hb9 => ?_⟩, hI, fun n hn => ?_, fun i n hi j hj => ?_, List.pairwise_singleton _ _, rfl, rfl, List.Pairwise.nil, fun n hn => (by cases hn), by simp, ⟨hb.size, by simp⟩, fun b h => h.2⟩, hbw⟩
  · have := ho.lt b hb9
    exact ⟨this.1, by simp; omega⟩
  · rw [List.mem_singleton] at hn
    subst hn
    exact hN
  · have hi' : i = 0 := by
      rcases i with _ | i
      · rfl
      · simp at hi
    subst hi'
    cases hi
    have h9 : wy.cell? ⟨r, j, none⟩ = some (.pointer none) := own_cell' hr (by rw [made_ptr, List.getElem?_replicate, if_pos hj])
    exact (hb1.cell (p := ⟨r, j, none⟩) hlt).trans h9
set_option maxRecDepth 100000 in
set_option maxHeartbeats 4000000 in
theorem new_any (v : Value) (hs : List Int) (w : World) (h : IsI w v hs) (hl : hs.length ≤ 17592186044416) : Calls Try.prog 7 #[v] w (NewP hs w) := by
  obtain ⟨j0, hi0, hz0, hz1, hz2⟩ := info_parts infoPt
  have JI := Lib.hid hi0; have JZ0 := Lib.hid hz0; have JZ1 := Lib.hid hz1; have JZ2 := Lib.hid hz2
  have HC0 := Lib.hid (cloneI_any v hs w.drew h hl)
  have HB := Lib.hid h
  have HR := Lib.hid h.rng
  have HL := Lib.hid hl
  obtain ⟨wm, hmm, hom, hgm⟩ := make12 w.drew w.heap.size (Nat.le_refl _)
  have RM := Lib.hid hom
  have gm : Below w.heap.size w wm := (Below.refl _ w).drew.trans (below_own hgm (Nat.le_refl _) (fun k hk => by cases hk))
  have GM := Lib.hid gm
  have HC1 := Lib.hid (cloneI_any v hs wm (h.below inR_stays gm) hl)
  have RN := Lib.hid (hom.alloc (.cells #[.slice none 0 0, .int .u64 0, .bool false, .slice none 0 0, .slice (some ⟨w.heap.size, 0, none⟩) 12 12] 57))
  have GN : Hid (Below w.heap.size w (wm.alloc (.cells #[.slice none 0 0, .int .u64 0, .bool false, .slice none 0 0, .slice (some ⟨w.heap.size, 0, none⟩) 12 12] 57))) := Lib.hid (bel_alloc gm _)
  have HC2 := Lib.hid (cloneI_any v hs _ (h.below inR_stays GN.out) hl)
  obtain ⟨ao, cap, rfl, -, -, -⟩ := h.form
  clear hi0 hz0 hz1 hz2 h hl hom hgm gm
  go_enter Try.func7, Try.ntmps7
  go_wp2_with fail
  go_region_held3 (fun _ => True) (trivial) (first
    | (go_at_call 27; with_reducible refine Calls.mono HC0.out ?_; unfold ClonIP; rintro e wf ⟨hv, rfl, ho, gf⟩; have HO := Lib.hid ho; have GF : Hid (Below w.heap.size w wf) := Lib.hid (bel_of_drew gf); obtain ⟨wz, hmz, hoz, hgz⟩ := make12 wf w.heap.size GF.out.size; have RZ := Lib.hid hoz; have gz : Below wf.heap.size wf wz := below_own hgz (Nat.le_refl _) (fun k hk => by cases hk); have GZ : Hid (Below w.heap.size w (wz.alloc (.cells #[.slice none 0 0, .int .u64 0, .bool false, .slice none 0 0, .slice (some ⟨wf.heap.size, 0, none⟩) 12 12] 57))) := Lib.hid (bel_alloc (bel_call GF.out gz) _); have KZ := Lib.hid ((own_below HO.out gz).alloc (.cells #[.slice none 0 0, .int .u64 0, .bool false, .slice none 0 0, .slice (some ⟨wf.heap.size, 0, none⟩) 12 12] 57)); have RZ := Lib.hid (RZ.out.alloc (.cells #[.slice none 0 0, .int .u64 0, .bool false, .slice none 0 0, .slice (some ⟨wf.heap.size, 0, none⟩) 12 12] 57)); have NZ := Lib.hid (heap_alloc_new wz (.cells #[.slice none 0 0, .int .u64 0, .bool false, .slice none 0 0, .slice (some ⟨wf.heap.size, 0, none⟩) 12 12] 57)); have LZ : Hid (w.heap.size ≤ wz.heap.size) := Lib.hid (bel_call GF.out gz).size; obtain ⟨ho1, hc1, rfl, -, -, -, -⟩ := own_form ho)
    | (go_at_call 27; with_reducible refine Calls.mono HC1.out ?_; unfold ClonIP; rintro e wz ⟨hv, rfl, ho, gf⟩; have GZ : Hid (Below w.heap.size w (wz.alloc (.cells #[.slice none 0 0, .int .u64 0, .bool false, .slice none 0 0, .slice (some ⟨w.heap.size, 0, none⟩) 12 12] 57))) := Lib.hid (bel_alloc (bel_call GM.out gf) _); have KZ := Lib.hid ((own_mono ho GM.out.size).alloc (.cells #[.slice none 0 0, .int .u64 0, .bool false, .slice none 0 0, .slice (some ⟨w.heap.size, 0, none⟩) 12 12] 57)); have RZ := Lib.hid ((own_below RM.out gf).alloc (.cells #[.slice none 0 0, .int .u64 0, .bool false, .slice none 0 0, .slice (some ⟨w.heap.size, 0, none⟩) 12 12] 57)); have NZ := Lib.hid (heap_alloc_new wz (.cells #[.slice none 0 0, .int .u64 0, .bool false, .slice none 0 0, .slice (some ⟨w.heap.size, 0, none⟩) 12 12] 57)); have LZ : Hid (w.heap.size ≤ wz.heap.size) := Lib.hid (bel_call GM.out gf).size; obtain ⟨ho1, hc1, rfl, -, -, -, -⟩ := own_form ho)
    | (go_at_call 27; with_reducible refine Calls.mono HC2.out ?_; unfold ClonIP; rintro e wz ⟨hv, rfl, ho, gf⟩; have GZ : Hid (Below w.heap.size w wz) := Lib.hid (bel_call GN.out gf); have KZ := Lib.hid (own_mono ho GN.out.size); have RZ := Lib.hid (own_below RN.out gf); have NZ := Lib.hid ((gf.block _ (by simp)).trans (heap_alloc_new wm (.cells #[.slice none 0 0, .int .u64 0, .bool false, .slice none 0 0, .slice (some ⟨w.heap.size, 0, none⟩) 12 12] 57))); have LZ : Hid (w.heap.size ≤ wm.heap.size) := Lib.hid GM.out.size; obtain ⟨ho1, hc1, rfl, -, -, -, -⟩ := own_form ho))
  all_goals
    go_wp2_with fail
    go_ret
    have hq := newP_of (w := w) HR.out KZ.out RZ.out NZ.out LZ.out GZ.out
    first | exact hq | (rw [World.size_alloc] at hq; exact hq)
end Mt
end Go.Proofs.Ytgkgfghmpimaoaa
