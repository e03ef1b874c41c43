/- memtable: Scan; the law's scan, a range over a function (walks). -/
import Derived.Test.YtgkgfghmpimaoaaMtR
import Derived.Shelf.Abstract
set_option linter.unusedVariables false
set_option linter.unusedSimpArgs false
namespace Go.Proofs.Ytgkgfghmpimaoaa
open Go.RowKit Go.Shelf
attribute [local go_sem] Oper.semAt_some
namespace Mt
def ScanP (tb : Nat) (key : List Int) (w : World) (e : Ending) (w' : World) : Prop := ∃ kv, e = .returned (.func (.func 39) #[] #[.pointer (some ⟨w.heap.size, 0, none⟩), .pointer (some ⟨w.heap.size + 1, 0, none⟩)]) ∧
  w'.cell? ⟨w.heap.size, 0, none⟩ = some (.pointer (some ⟨tb, 0, none⟩)) ∧ w'.cell? ⟨w.heap.size + 1, 0, none⟩ = some kv ∧ IsB w' kv key ∧ Below w.heap.size w w'
set_option maxRecDepth 100000 in
set_option maxHeartbeats 1000000 in
theorem mscan_any (tb : Nat) (fv : Value) (key : List Int) (w : World) (hk : IsB w fv key) (hl : key.length ≤ 140737488355328) : Calls Try.prog 32 #[.pointer (some ⟨tb, 0, none⟩), fv] w (ScanP tb key w) := by
  obtain ⟨ko, kc, rfl, -, -, -⟩ := hk.form
  have HC := Lib.hid (cloneB_any ko kc key ((w.alloc (.cells #[.pointer (some ⟨tb, 0, none⟩)] 25)).alloc (.cells #[.slice ko key.length kc] 29)) ((hk.alloc _).alloc _) hl)
  clear hk hl
  go_enter Try.func32, Try.ntmps32
  go_wp2_with fail
  refine HC.out.mono ?_
  unfold CloneP
  rintro e w1 ⟨ao, cap, rfl, h1, h2, ho, hb⟩
  have c0 : w1.cell? ⟨w.heap.size, 0, none⟩ = some (.pointer (some ⟨tb, 0, none⟩)) := (hb.cell (p := ⟨w.heap.size, 0, none⟩) (by simp <;> omega)).trans (by go_simp)
  have c1 : w1.cell? ⟨w.heap.size + 1, 0, none⟩ = some (.slice ko key.length kc) := (hb.cell (p := ⟨w.heap.size + 1, 0, none⟩) (by simp <;> omega)).trans (by go_simp)
  have cf1 : w1.frozen? ⟨w.heap.size + 1, 0, none⟩ = false := (hb.frozen (p := ⟨w.heap.size + 1, 0, none⟩) (by simp <;> omega)).trans (by go_simp)
  have HB : Hid (Below w.heap.size w w1) := Lib.hid (bel_call (bel_alloc (bel_alloc (Below.refl _ w) _) _) hb)
  have HO := Lib.hid ho
  clear hb ho
  go_wp2_with fail
  go_ret
  refine ⟨_, rfl, ?_, World.cell?_setCell_same' _ _ _ (by rw [c1]; rfl), (ownS_away HO.out (gb_set (gb_refl w1 (some (w.heap.size + 1))) (p := ⟨w.heap.size + 1, 0, none⟩) (.inl rfl) _) (by simp)).isB, HB.out.setCell (p := ⟨w.heap.size + 1, 0, none⟩) (by simp) _⟩
  rw [World.cell?_setCell_other _ _ _ _ (by simp)]
  exact c0
theorem OwnEs.mono {w : World} {b b' : Nat} {v : Value} {l : List En} (h : OwnEs w b v l) (hb : b' ≤ b) : OwnEs w b' v l := by
  obtain ⟨rs, rfl, ho, hg⟩ := h
  exact ⟨rs, rfl, own_mono ho hb, fun r hr => ⟨(hg r hr).1.mono hb, (hg r hr).2.1.mono hb, (hg r hr).2.2⟩⟩
/-- a row whose blocks lie below bd -/
def LowV (bd : Nat) (v : Value) : Prop := ∀ b, v.ownBlock = some b → b < bd
/-- what the law's scan keeps between two rounds -/
structure ScI (S : Nat → Prop) (w W : World) (tb : Nat) (hs : List Int) (hd : Nd) (L : List Nd) (most : Int) (pre : List En) (bd : Nat) : Prop where
  tab : TabI S W tb hs hd L
  bel : Below w.heap.size w W
  mb : W.heap[w.heap.size]? = some (.cells #[.int .i64 most] 3 (0, 0))
  ob : ∃ v, ∃ rs : List EV, W.heap[w.heap.size + 1]? = some (.cells #[v] 39 (0, 0)) ∧ rs.map (·.1) = pre ∧ W.ownsRow w.heap.size 32 4 v rs.length (rs.flatMap c4) ∧ LowV bd v ∧ ∀ r ∈ rs, GoodE W w.heap.size r ∧ LowV bd r.2.1 ∧ LowV bd r.2.2
  sb : ∀ b, S b → b < bd
  lo : w.heap.size + 2 ≤ bd ∧ bd ≤ W.heap.size
theorem ScI.up {S : Nat → Prop} {w W : World} {tb : Nat} {hs : List Int} {hd : Nd} {L : List Nd} {most : Int} {pre : List En} {bd bd' : Nat} (h : ScI S w W tb hs hd L most pre bd) (hb : bd ≤ bd') (hb2 : bd' ≤ W.heap.size) : ScI S w W tb hs hd L most pre bd' := by
  obtain ⟨v, rs, h1, h2, h3, h4, h5⟩ := h.ob
  exact ⟨h.tab, h.bel, h.mb, ⟨v, rs, h1, h2, h3, fun b hb9 => Nat.lt_of_lt_of_le (h4 b hb9) hb, fun r hr => ⟨(h5 r hr).1, fun b hb9 => Nat.lt_of_lt_of_le ((h5 r hr).2.1 b hb9) hb, fun b hb9 => Nat.lt_of_lt_of_le ((h5 r hr).2.2 b hb9) hb⟩⟩, fun b hS => Nat.lt_of_lt_of_le (h.sb b hS) hb, ⟨Nat.le_trans h.lo.1 hb, hb2⟩⟩
/-- blocks that lie at or above bd may turn -/
theorem ScI.turn {S T : Nat → Prop} {w W W' : World} {tb : Nat} {hs : List Int} {hd : Nd} {L : List Nd} {most : Int} {pre : List En} {bd : Nat} (h : ScI S w W tb hs hd L most pre bd) (c : Chg T W W') (hT : ∀ b, b < bd → ¬ T b) : ScI S w W' tb hs hd L most pre bd := by
  obtain ⟨v, rs, h1, h2, h3, h4, h5⟩ := h.ob
  have lo := h.lo
  refine ⟨h.tab.keep (c.mono (fun b _ hb hS => hT b (h.sb b hS) hb)), h.bel.trans (c.below h.bel.size (fun b hb => hT b (by omega))), (c.block _ (Array.getElem?_eq_some_iff.1 h.mb).1 (hT _ (by omega))).trans h.mb, ⟨v, rs, (c.block _ (Array.getElem?_eq_some_iff.1 h1).1 (hT _ (by omega))).trans h1, h2, c.own h3 (fun b hb => hT b (h4 b hb)), h4, fun r hr => ?_⟩, h.sb, ⟨lo.1, Nat.le_trans lo.2 c.size⟩⟩
  obtain ⟨q1, q2, q3⟩ := h5 r hr
  exact ⟨⟨c.ownS q1.1 (fun b hb => hT b (q2 b hb)), c.ownS q1.2.1 (fun b hb => hT b (q3 b hb)), q1.2.2⟩, q2, q3⟩
theorem ScI.below {S : Nat → Prop} {w W W' : World} {tb : Nat} {hs : List Int} {hd : Nd} {L : List Nd} {most : Int} {pre : List En} {bd : Nat} (h : ScI S w W tb hs hd L most pre bd) (hb : Below W.heap.size W W') : ScI S w W' tb hs hd L most pre bd :=
  h.turn (T := fun _ => False) (.of_ext hb) (fun _ _ h => h)
theorem chg_put {W : World} {l : Nat} {o o' : Obj} (h : W.heap[l]? = some o) : Chg (fun b => b = l) W (W.putObj l o') := Chg.of_grown (grownBy_putObj' W l o') (fun b _ e => by cases e; rfl)
/-- with books that are no cells -/
theorem ScI.put {S : Nat → Prop} {w W : World} {tb : Nat} {hs : List Int} {hd : Nd} {L : List Nd} {most : Int} {pre : List En} {bd l B : Nat} {o o' : Obj} (h : ScI S w W tb hs hd L most pre bd) (hl : W.heap[l]? = some o) (ho : o.isCells = false) (hbl : B ≤ l) (hSB : ∀ b, S b → b < B) (hlo : w.heap.size + 2 ≤ B) : ScI S w (W.putObj l o') tb hs hd L most pre bd := by
  obtain ⟨v, rs, h1, h2, h3, h4, h5⟩ := h.ob
  have c := chg_put (o' := o') hl
  have nc : ∀ b cur e f, W.heap[b]? = some (.cells cur e f) → b ≠ l := fun b cur e f hb e2 => by
    rw [e2, hl] at hb
    cases hb
    cases ho
  have lo := h.lo
  have ownne : ∀ {base n size : Nat} {e : TypeId} {v : Value} {xs : List Value}, W.ownsRow base e size v n xs → ∀ b, v.ownBlock = some b → b ≠ l := fun ho b hb => by
    obtain ⟨-, -, cu, hc⟩ := own_typed ho b hb
    exact nc b _ _ _ hc
  refine ⟨h.tab.keep (c.mono (fun b _ hb hS => by have := hSB b hS; omega)), h.bel.trans (c.below h.bel.size (fun b hb e => by omega)), (c.block _ (Array.getElem?_eq_some_iff.1 h.mb).1 (nc _ _ _ _ h.mb)).trans h.mb, ⟨v, rs, (c.block _ (Array.getElem?_eq_some_iff.1 h1).1 (nc _ _ _ _ h1)).trans h1, h2, c.own h3 (ownne h3), h4, fun r hr => ?_⟩, h.sb, ⟨lo.1, Nat.le_trans lo.2 c.size⟩⟩
  obtain ⟨q1, q2, q3⟩ := h5 r hr
  exact ⟨⟨c.ownS q1.1 (fun b hb => by obtain ⟨cu, hc⟩ := q1.1.typed b hb; exact nc b _ _ _ hc), c.ownS q1.2.1 (fun b hb => by obtain ⟨cu, hc⟩ := q1.2.1.typed b hb; exact nc b _ _ _ hc), q1.2.2⟩, q2, q3⟩
theorem ob_turn {w : World} {b : Nat} {v : Value} {e : TypeId} (h : w.heap[b]? = some (.cells #[v] e (0, 0))) (u : Value) : (w.setCell ⟨b, 0, none⟩ u).heap[b]? = some (.cells #[u] e (0, 0)) := by
  rw [heap_setCell_same w b 0 _ _ _ h]
  rfl
theorem ob_up {W w2 : World} {b : Nat} {o9 : Obj} (hb : Below W.heap.size W w2) (h : W.heap[b]? = some o9) (o o' : Obj) : ((w2.alloc o).alloc o').heap[b]? = some o9 :=
  (Below.heap_alloc _ _ _ (by have := (Array.getElem?_eq_some_iff.1 h).1; have := hb.size; simp; omega)).trans ((Below.heap_alloc _ _ _ (by have := (Array.getElem?_eq_some_iff.1 h).1; have := hb.size; omega)).trans ((hb.block _ (Array.getElem?_eq_some_iff.1 h).1).trans h))
theorem new_cells (w : World) (o : Obj) (news : List Value) : ∀ j u, news[j]? = some u → ((w.alloc o).alloc (.cells news.toArray 32)).cell? ((⟨w.heap.size + 1, 0, none⟩ : Addr).add j) = some u := by
  intro j u hj
  have h := heap_alloc_new (w.alloc o) (.cells news.toArray 32)
  rw [World.size_alloc] at h
  rw [plain_add', cell_of_row _ _ (0 + j) _ _ (0, 0) h]
  simpa using hj
set_option maxRecDepth 100000 in
set_option maxHeartbeats 4000000 in
theorem scan_any (S : Nat → Prop) (tb : Nat) (hs : List Int) (hd : Nd) (L : List Nd) (fv : Value) (key : List Int) (pos : Nat) (most : Int) (w : World) (hT : TabI S w tb hs hd L) (hk : IsB w fv key) (hl : key.length ≤ 140737488355328) (hp : Pos (L.map (·.x)) key 4611686018427387905 pos) (hm : 1 ≤ most ∧ most ≤ 300) :
    Calls Try.prog 13 #[.pointer (some ⟨tb, 0, none⟩), fv, .int .i64 most] w (fun e w' => ∃ v, e = .returned v ∧ OwnEs w' w.heap.size v (((L.map (·.x)).drop pos).take most.toNat) ∧ Below w.heap.size w w') := by
  obtain ⟨ko, kc, rfl, -, -, -⟩ := hk.form
  have hb0 : Below w.heap.size w ((w.alloc (.cells #[.int .i64 most] 3)).alloc (.cells #[.slice none 0 0] 39)) := bel_alloc (bel_alloc (Below.refl _ w) _) _
  have HC := Lib.hid (mscan_any tb (.slice ko key.length kc) key _ (hk.below hb0) hl)
  have HSL : Hid (∀ b, S b → b < w.heap.size) := Lib.hid hT.lt
  have HT := Lib.hid (hT.below hb0)
  have HB0 := Lib.hid hb0
  have HP := Lib.hid hp
  have HM := Lib.hid hm
  clear hT hk hl hp hb0
  refine (callsIn_wide (n := 7)).1 ?_
  refine callsIn_of_wp_marks Try.func13 rfl trivial ?_ rfl
  simp only [Try.ntmps13, List.size_toArray, List.length_cons, List.length_nil, Nat.reduceAdd, Nat.reduceSub, Array.replicate_succ, Array.replicate_zero, List.push_toArray, List.append_toArray, List.nil_append, List.cons_append]
  refine wpIn_wide.2 ?_
  go_wp2_with fail
  refine HC.out.mono ?_
  unfold ScanP
  rintro e w1 ⟨kv, rfl, s1, s2, hkv, hb⟩
  rw [World.size_alloc, World.size_alloc] at s1 s2
  have HT1 := Lib.hid (HT.out.below hb)
  have HB1 := Lib.hid (bel_call HB0.out hb)
  have HMB : Hid (w1.heap[w.heap.size]? = some (.cells #[.int .i64 most] 3 (0, 0))) := Lib.hid ((hb.block _ (by simp <;> omega)).trans ((Below.heap_alloc _ _ _ (by simp)).trans (heap_alloc_new w _)))
  have HOB : Hid (w1.heap[w.heap.size + 1]? = some (.cells #[.slice none 0 0] 39 (0, 0))) := Lib.hid ((hb.block _ (by simp)).trans (by have := heap_alloc_new (w.alloc (.cells #[.int .i64 most] 3)) (.cells #[.slice none 0 0] 39); rw [World.size_alloc] at this; exact this))
  have HKV := Lib.hid hkv
  have HSZ : Hid (w1.heap.size ≥ w.heap.size + 2) := Lib.hid (by have := hb.size; simp at this; omega)
  clear hkv hb
  go_wp2_with fail
  have HLEN : Hid (((L.map (·.x)).drop pos).length ≤ L.length) := Lib.hid (by simp)
  refine wp_range (gf := 39) (N := L.length) (all := (L.map (·.x)).drop pos) rfl (enters_of Try.func39 (by kernel_rfl) rfl)
    (fun pre W => ScI S w W tb hs hd L most pre W.heap.size ∧ (pre.length : Int) < most) (fun pre W => ScI S w W tb hs hd L most pre W.heap.size ∧ (pre.length : Int) = most) ?bI ?bX ?seq
    (fun pre x Wb a₁ W => ∃ kv2 vv2 eb, a₁ = { tmps := #[.pointer (some ⟨tb, 0, none⟩), .slice ko key.length kc, .int .i64 most, undef, undef, .pointer (some ⟨w.heap.size, 0, none⟩), .slice none 0 0, .pointer (some ⟨w.heap.size + 1, 0, none⟩), .pointer (some ⟨eb, 0, none⟩), undef, .pointer (some ⟨tb, 0, none⟩), .slice ko key.length kc, .func (.func 39) #[] #[.pointer (some ⟨w.heap.size + 1 + 1, 0, none⟩), .pointer (some ⟨w.heap.size + 1 + 1 + 1, 0, none⟩)], .agg #[kv2, .int .u64 x.2.1, .bool x.2.2.1, vv2], undef, undef, undef, undef, undef, undef, undef, undef, undef, undef, undef, undef, undef], defers := [] } ∧ ScI S w W tb hs hd L most pre Wb.heap.size ∧ OwnS W Wb.heap.size 5 kv2 x.1 ∧ OwnS W Wb.heap.size 5 vv2 x.2.2.2 ∧ W.heap[eb]? = some (.cells #[kv2, .int .u64 x.2.1, .bool x.2.2.1, vv2] 32 (0, 0)) ∧ Wb.heap.size ≤ eb ∧ Short x ∧ U64 x.2.1) ?hR ?assign ?body ?h0 ?done ?stop
  case bI => exact ⟨fun pre W l o o' hl ho hc ⟨h, hlt⟩ => ⟨(h.put ho hc hl HT1.out.lt HSZ.out).up (chg_put ho).size (Nat.le_refl _), hlt⟩, fun pre W W' ⟨h, hlt⟩ hb => ⟨(h.below hb).up hb.size (Nat.le_refl _), hlt⟩⟩
  case bX => exact ⟨fun pre W l o o' hl ho hc ⟨h, hlt⟩ => ⟨(h.put ho hc hl HT1.out.lt HSZ.out).up (chg_put ho).size (Nat.le_refl _), hlt⟩, fun pre W W' ⟨h, hlt⟩ hb => ⟨(h.below hb).up hb.size (Nat.le_refl _), hlt⟩⟩
  case seq =>
    intro l J Jx W hb hJI hJb hY h0
    have s1' := (hb.cell (p := ⟨w.heap.size + 1 + 1, 0, none⟩) (World.block_lt_of_cell? w1 ⟨_, 0, none⟩ s1)).trans s1
    have s2' := (hb.cell (p := ⟨w.heap.size + 1 + 1 + 1, 0, none⟩) (World.block_lt_of_cell? w1 ⟨_, 0, none⟩ s2)).trans s2
    exact iter_any S tb hs hd L _ _ l kv key pos J Jx W (fun pre W h => (hJI pre W h).1.tab) hJb HP.out s1' s2' (HKV.out.below hb) hY h0
  case hR =>
    rintro pre x Wb a₁ W l o o' hl ho hc ⟨kv2, vv2, eb, h1, h2, h3, h4, h5, h6⟩
    have c := chg_put (o' := o') ho
    have nc : ∀ b cur e f, W.heap[b]? = some (.cells cur e f) → b ≠ l := fun b cur e f hb e2 => by
      rw [e2, ho] at hb
      cases hb
      cases hc
    exact ⟨kv2, vv2, eb, h1, h2.put ho hc hl HT1.out.lt HSZ.out, c.ownS h3 (fun b hb => by obtain ⟨cu, hc⟩ := h3.typed b hb; exact nc b _ _ _ hc), c.ownS h4 (fun b hb => by obtain ⟨cu, hc⟩ := h4.typed b hb; exact nc b _ _ _ hc), (c.block _ (Array.getElem?_eq_some_iff.1 h5).1 (nc _ _ _ _ h5)).trans h5, h6⟩
  case assign =>
    rintro l pre x Wb W v K ⟨hI, hlt⟩ hbb ⟨kv2, vv2, rfl, h1, h2, hsu⟩ hK
    obtain ⟨fo1, fc1, rfl, -, -, -, -⟩ := h1.form
    obtain ⟨to1, tc1, rfl, -, -, -, -⟩ := h2.form
    have HI := Lib.hid hI
    have H1 := Lib.hid h1
    have H2 := Lib.hid h2
    have HBB := Lib.hid hbb
    clear hI h1 h2 hbb
    gi_wp2
    exact hK _ _ ((KeepsOthers.alloc _ _).from _) ⟨_, _, W.heap.size, rfl, HI.out.below (HBB.out.trans (((Below.refl _ W).alloc (Nat.le_refl _) _).mono HBB.out.size)), H1.out.alloc _, H2.out.alloc _, heap_alloc_new W _, HBB.out.size, hsu⟩
  case h0 =>
    exact ⟨⟨HT1.out, HB1.out, HMB.out, ⟨.slice none 0 0, [], HOB.out, rfl, World.ownsRow_nil _ _ _ _, fun b h => (by cases h), fun r hr => (by cases hr)⟩, HT1.out.lt, ⟨HSZ.out, Nat.le_refl _⟩⟩, by have := HM.out; simp; omega⟩
  case done =>
    rintro D W ⟨hI, hlt⟩ hK hD
    have hI2 := hI.put (o' := .deferred none) hK rfl hD HT1.out.lt HSZ.out
    obtain ⟨v, rs, o1, o2, o3, o4, o5⟩ := hI.ob
    have HF : Hid (OwnEs (W.putObj D (.deferred none)) w.heap.size v (((L.map (·.x)).drop pos).take most.toNat) ∧ Below w.heap.size w (W.putObj D (.deferred none))) := Lib.hid (by
      obtain ⟨v', rs', p1, p2, p3, p4, p5⟩ := hI2.ob
      have c := chg_put (o' := .deferred none) hK
      have e9 := (c.block _ (Array.getElem?_eq_some_iff.1 o1).1 (fun e => by rw [e, hK] at o1; cases o1)).trans o1
      rw [p1] at e9
      simp only [Option.some.injEq, Obj.cells.injEq, Array.mk.injEq, List.cons.injEq, and_true] at e9
      subst e9
      refine ⟨⟨rs', by rw [p2, List.take_of_length_le (by omega)], ?_, fun r hr => (p5 r hr).1⟩, hI2.bel⟩
      rw [List.take_of_length_le (by omega), ← p2, List.length_map]
      exact p3)
    have t7 : W.cell? ⟨w.heap.size + 1, 0, none⟩ = some v := by rw [cell_of_row _ _ _ _ _ _ o1]; rfl
    obtain ⟨vo, vc, rfl, -, -, -, -⟩ := own_form o3
    clear o1 o2 o3 o4 o5 hI hI2
    go_wp2_with fail
    refine ⟨by simp, .inl ⟨_, _, rfl, run_takeDeferred hK, ?_⟩⟩
    exact ⟨_, results_tmp rfl _ _ _, .slice vo rs.length vc, rfl, HF.out.1, HF.out.2⟩
  case stop =>
    rintro D pre W hpre ⟨hI, hlt⟩ hK hD
    have hI2 := hI.put (o' := .deferred none) hK rfl hD HT1.out.lt HSZ.out
    obtain ⟨v, rs, o1, o2, o3, o4, o5⟩ := hI.ob
    have hpe : pre = ((L.map (·.x)).drop pos).take most.toNat := by
      obtain ⟨suf, hs⟩ := hpre
      rw [← hs, List.take_append_of_le_length (by omega), List.take_of_length_le (by omega)]
    have HF : Hid (OwnEs (W.putObj D (.deferred none)) w.heap.size v (((L.map (·.x)).drop pos).take most.toNat) ∧ Below w.heap.size w (W.putObj D (.deferred none))) := Lib.hid (by
      obtain ⟨v', rs', p1, p2, p3, p4, p5⟩ := hI2.ob
      have c := chg_put (o' := .deferred none) hK
      have e9 := (c.block _ (Array.getElem?_eq_some_iff.1 o1).1 (fun e => by rw [e, hK] at o1; cases o1)).trans o1
      rw [p1] at e9
      simp only [Option.some.injEq, Obj.cells.injEq, Array.mk.injEq, List.cons.injEq, and_true] at e9
      subst e9
      rw [← hpe]
      refine ⟨⟨rs', p2, ?_, fun r hr => (p5 r hr).1⟩, hI2.bel⟩
      rw [← p2, List.length_map]
      exact p3)
    have t7 : W.cell? ⟨w.heap.size + 1, 0, none⟩ = some v := by rw [cell_of_row _ _ _ _ _ _ o1]; rfl
    obtain ⟨vo, vc, rfl, -, -, -, -⟩ := own_form o3
    clear o1 o2 o3 o4 o5 hI hI2 hpe hpre
    go_wp2_with fail
    refine ⟨by simp, .inl ⟨_, _, rfl, run_takeDeferred hK, ?_⟩⟩
    exact ⟨_, results_tmp rfl _ _ _, .slice vo rs.length vc, rfl, HF.out.1, HF.out.2⟩
  case body =>
    rintro l pre x Wb a₁ W ⟨hIb, hlt⟩ hlen ⟨kv2, vv2, eb, rfl, hI, h1, h2, h3, h4, hsu⟩
    obtain ⟨i0, hi0, hz0, hz1, hz2⟩ := info_parts infoEn
    have HI0 := Lib.hid hi0; have HZ0 := Lib.hid hz0; have HZ1 := Lib.hid hz1; have HZ2 := Lib.hid hz2
    obtain ⟨fo, fc, rfl, -, -, -, -⟩ := h1.form
    obtain ⟨vo9, tc, rfl, -, -, -, -⟩ := h2.form
    obtain ⟨v, rs, o1, o2, o3, o4, o5⟩ := hI.ob
    obtain ⟨vo, vc, rfl, -, -, -, -⟩ := own_form o3
    have hrl : rs.length < 300 := by have := congrArg List.length o2; simp only [List.length_map] at this; have := HM.out; omega
    have ebl := (Array.getElem?_eq_some_iff.1 h3).1
    have lo := hI.lo
    have a0 : W.cell? ⟨eb, 0, none⟩ = some (.slice fo x.1.length fc) := by rw [cell_of_row _ _ _ _ _ _ h3]; rfl
    have a1 : W.cell? ⟨eb, 1, none⟩ = some (.int .u64 x.2.1) := by rw [cell_of_row _ _ _ _ _ _ h3]; rfl
    have a2 : W.cell? ⟨eb, 2, none⟩ = some (.bool x.2.2.1) := by rw [cell_of_row _ _ _ _ _ _ h3]; rfl
    have a3 : W.cell? ⟨eb, 3, none⟩ = some (.slice vo9 x.2.2.2.length tc) := by rw [cell_of_row _ _ _ _ _ _ h3]; rfl
    have t7 : W.cell? ⟨w.heap.size + 1, 0, none⟩ = some (.slice vo rs.length vc) := by rw [cell_of_row _ _ _ _ _ _ o1]; rfl
    have f7 : W.frozen? ⟨w.heap.size + 1, 0, none⟩ = false := frozen_of_row _ _ _ _ _ o1
    have m0 : W.cell? ⟨w.heap.size, 0, none⟩ = some (.int .i64 most) := by rw [cell_of_row _ _ _ _ _ _ hI.mb]; rfl
    have HC := Lib.hid (copy_any _ _ x W h1.isB h2.isB hsu.1)
    have O1 := Lib.hid o1
    have O2 := Lib.hid o2
    have O3 := Lib.hid o3
    have O45 := Lib.hid (And.intro o4 o5)
    have HII := Lib.hid hI
    have H1 := Lib.hid h1
    have H2 := Lib.hid h2
    have H3 := Lib.hid h3
    have H4 := Lib.hid h4
    have HSU := Lib.hid hsu
    have vtyp := own_typed o3
    have NOB : Hid (¬ (.slice vo rs.length vc : Value).ownBlock = some (w.heap.size + 1)) := Lib.hid fun h => by
      obtain ⟨-, -, cu, hc⟩ := vtyp _ h
      exact absurd (types_apart hc o1) (by decide)
    have NMB : Hid (¬ ((.slice vo rs.length vc : Value).ownBlock = some w.heap.size ∨ w.heap.size = w.heap.size + 1)) := Lib.hid fun h => by
      rcases h with h | h
      · obtain ⟨-, -, cu, hc⟩ := vtyp _ h
        exact absurd (types_apart hc hI.mb) (by decide)
      · omega
    have NHI : Hid (∀ b, Wb.heap.size ≤ b → ¬ ((.slice vo rs.length vc : Value).ownBlock = some b ∨ b = w.heap.size + 1)) := Lib.hid fun b hb h => by
      rcases h with h | h
      · have := o4 b h; omega
      · omega
    have NEB : Hid (¬ ((.slice vo rs.length vc : Value).ownBlock = some eb ∨ eb = w.heap.size + 1)) := Lib.hid (NHI.out eb h4)
    have NSM : Hid (∀ b, b < Wb.heap.size → ¬ ((.slice fo x.1.length fc : Value).ownBlock = some b ∨ (.slice vo9 x.2.2.2.length tc : Value).ownBlock = some b)) := Lib.hid fun b hb h => by
      rcases h with h | h
      · have := (h1.lt b h).1; omega
      · have := (h2.lt b h).1; omega
    clear vtyp
    clear o1 o2 o3 o4 o5 hI h1 h2 h3 hsu hi0 hz0 hz1 hz2 hIb
    gi_wp2_with (first
      | (refine ⟨trivial, ?_⟩; gi_at_call 20; refine (CallsIn.inRound l (callsIn_wide.2 HC.out)).mono ?_; unfold OwnP; rintro e w2 ⟨kv3, vv3, rfl, k1, k2, hb⟩; have b0 : w2.cell? ⟨eb, 0, none⟩ = some (.slice fo x.1.length fc) := (hb.cell (p := ⟨eb, 0, none⟩) ebl).trans a0; have b1 : w2.cell? ⟨eb, 1, none⟩ = some (.int .u64 x.2.1) := (hb.cell (p := ⟨eb, 1, none⟩) ebl).trans a1; have b2 : w2.cell? ⟨eb, 2, none⟩ = some (.bool x.2.2.1) := (hb.cell (p := ⟨eb, 2, none⟩) ebl).trans a2; have b3 : w2.cell? ⟨eb, 3, none⟩ = some (.slice vo9 x.2.2.2.length tc) := (hb.cell (p := ⟨eb, 3, none⟩) ebl).trans a3; have p7 : w2.cell? ⟨w.heap.size + 1, 0, none⟩ = some (.slice vo rs.length vc) := (hb.cell (p := ⟨w.heap.size + 1, 0, none⟩) (show w.heap.size + 1 < W.heap.size by omega)).trans t7; have q7 : w2.frozen? ⟨w.heap.size + 1, 0, none⟩ = false := (hb.frozen (p := ⟨w.heap.size + 1, 0, none⟩) (show w.heap.size + 1 < W.heap.size by omega)).trans f7; have pm : w2.cell? ⟨w.heap.size, 0, none⟩ = some (.int .i64 most) := (hb.cell (p := ⟨w.heap.size, 0, none⟩) (show w.heap.size < W.heap.size by omega)).trans m0; have K1 := Lib.hid k1; have K2 := Lib.hid k2; obtain ⟨go, gc, rfl, -, -, -, -⟩ := k1.form; obtain ⟨ho, hc9, rfl, -, -, -, -⟩ := k2.form; have GB := Lib.hid hb; have z2 := hb.size; have zb : w.heap.size + 1 < w2.heap.size := (by omega); have z3 := Nat.lt_of_lt_of_le ebl z2; have zm : w.heap.size < w2.heap.size := (by omega); clear k1 k2 hb a0 a1 a2 a3 t7 f7 m0)
      | (gi_at_builtin; refine wpListIn_append_own _ rfl _ _ 39 rfl w.heap.size 32 i0 _ 4 64 Try.underlying39 HI0.out HZ0.out HZ1.out HZ2.out rfl (by decide) (.slice vo rs.length vc) rs.length (rs.flatMap c4) rfl (((own_below O3.out GB.out).alloc _).alloc _) ⟨w2.heap.size + 1, 0, none⟩ 1 1 [.slice go x.1.length gc, .int .u64 x.2.1, .bool x.2.2.1, .slice ho x.2.2.2.length hc9] rfl rfl (new_cells w2 _ _) (by intro u hu; simp only [List.mem_cons, List.not_mem_nil, or_false] at hu; rcases hu with rfl | rfl | rfl | rfl <;> rfl) (by unfold maxLen; omega) (by omega) (by simp; omega) ?_; intro v' w5 ho5 hg5 _; obtain ⟨vo5, vc5, rfl, -, -, -, -⟩ := own_form ho5; have HO5 := Lib.hid ho5; have C5 : Chg (fun b => (.slice vo rs.length vc : Value).ownBlock = some b) ((w2.alloc (.cells #[.slice go x.1.length gc, .int .u64 x.2.1, .bool x.2.2.1, .slice ho x.2.2.2.length hc9] 32)).alloc (.cells #[.slice go x.1.length gc, .int .u64 x.2.1, .bool x.2.2.1, .slice ho x.2.2.2.length hc9] 32)) w5 := Chg.of_grown hg5 (fun _ _ h => h); have c6 : Chg (fun b => (.slice vo rs.length vc : Value).ownBlock = some b ∨ b = w.heap.size + 1) W (w5.setCell ⟨w.heap.size + 1, 0, none⟩ (.slice vo5 (rs.length + 1) vc5)) := ((((Chg.of_ext GB.out).alloc (.cells #[.slice go x.1.length gc, .int .u64 x.2.1, .bool x.2.2.1, .slice ho x.2.2.2.length hc9] 32)).alloc (.cells #[.slice go x.1.length gc, .int .u64 x.2.1, .bool x.2.2.1, .slice ho x.2.2.2.length hc9] 32)).trans (C5.mono (fun b _ h => .inl h))).set (p := ⟨w.heap.size + 1, 0, none⟩) (fun _ => .inr rfl) _; have C6 := Lib.hid c6; have d0 : (w5.setCell ⟨w.heap.size + 1, 0, none⟩ (.slice vo5 (rs.length + 1) vc5)).cell? ⟨eb, 0, none⟩ = some (.slice fo x.1.length fc) := (c6.cell ebl (NEB.out)).trans (by rw [cell_of_row _ _ _ _ _ _ H3.out]; rfl); have d1 : (w5.setCell ⟨w.heap.size + 1, 0, none⟩ (.slice vo5 (rs.length + 1) vc5)).cell? ⟨eb, 1, none⟩ = some (.int .u64 x.2.1) := (c6.cell ebl (NEB.out)).trans (by rw [cell_of_row _ _ _ _ _ _ H3.out]; rfl); have d2 : (w5.setCell ⟨w.heap.size + 1, 0, none⟩ (.slice vo5 (rs.length + 1) vc5)).cell? ⟨eb, 2, none⟩ = some (.bool x.2.2.1) := (c6.cell ebl (NEB.out)).trans (by rw [cell_of_row _ _ _ _ _ _ H3.out]; rfl); have d3 : (w5.setCell ⟨w.heap.size + 1, 0, none⟩ (.slice vo5 (rs.length + 1) vc5)).cell? ⟨eb, 3, none⟩ = some (.slice vo9 x.2.2.2.length tc) := (c6.cell ebl (NEB.out)).trans (by rw [cell_of_row _ _ _ _ _ _ H3.out]; rfl); have e7 : w5.cell? ⟨w.heap.size + 1, 0, none⟩ = some (.slice vo rs.length vc) := (C5.cell (by simp; omega) NOB.out).trans (by go_simp); have g7 : w5.frozen? ⟨w.heap.size + 1, 0, none⟩ = false := (C5.frozen (by simp; omega) NOB.out).trans (by go_simp); have k6 : OwnS (w5.setCell ⟨w.heap.size + 1, 0, none⟩ (.slice vo5 (rs.length + 1) vc5)) Wb.heap.size 5 (.slice fo x.1.length fc : Value) x.1 := c6.ownS H1.out (fun b hb => NHI.out b (H1.out.lt b hb).1); have v6 : OwnS (w5.setCell ⟨w.heap.size + 1, 0, none⟩ (.slice vo5 (rs.length + 1) vc5)) Wb.heap.size 5 (.slice vo9 x.2.2.2.length tc : Value) x.2.2.2 := c6.ownS H2.out (fun b hb => NHI.out b (H2.out.lt b hb).1); have HMK := Lib.hid (mark_any (fun b => (.slice fo x.1.length fc : Value).ownBlock = some b ∨ (.slice vo9 x.2.2.2.length tc : Value).ownBlock = some b) (.slice fo x.1.length fc : Value) (.slice vo9 x.2.2.2.length tc : Value) x.2.1 x.2.2.1 (w5.setCell ⟨w.heap.size + 1, 0, none⟩ (.slice vo5 (rs.length + 1) vc5)) (WrS.of_own k6) (WrS.of_own v6) (fun b h => .inl h) (fun b h => .inr h) (fun b h => (by rcases h with h | h; exact (k6.lt b h).2; exact (v6.lt b h).2))); have HMZ : Hid ((w5.setCell ⟨w.heap.size + 1, 0, none⟩ (.slice vo5 (rs.length + 1) vc5)).heap[w.heap.size]? = some (.cells #[.int .i64 most] 3 (0, 0))) := Lib.hid ((c6.block _ (Array.getElem?_eq_some_iff.1 HII.out.mb).1 NMB.out).trans HII.out.mb); have HOZ : Hid ((w5.setCell ⟨w.heap.size + 1, 0, none⟩ (.slice vo5 (rs.length + 1) vc5)).heap[w.heap.size + 1]? = some (.cells #[.slice vo5 (rs.length + 1) vc5] 39 (0, 0))) := Lib.hid (ob_turn (((C5.block (w.heap.size + 1) (by simp; omega) NOB.out).trans (ob_up GB.out O1.out _ _))) _); have HO5B : Hid (w5.heap[w.heap.size + 1]? = some (.cells #[(.slice vo rs.length vc : Value)] 39 (0, 0))) := Lib.hid ((C5.block (w.heap.size + 1) (by simp; omega) NOB.out).trans (ob_up GB.out O1.out _ _)); have c5w : Chg (fun b => (.slice vo rs.length vc : Value).ownBlock = some b) W w5 := (((Chg.of_ext GB.out).alloc (.cells #[.slice go x.1.length gc, .int .u64 x.2.1, .bool x.2.2.1, .slice ho x.2.2.2.length hc9] 32)).alloc (.cells #[.slice go x.1.length gc, .int .u64 x.2.1, .bool x.2.2.1, .slice ho x.2.2.2.length hc9] 32)).trans C5; have K5 := Lib.hid (c5w.ownS H1.out (fun b hb h => NHI.out b (H1.out.lt b hb).1 (.inl h))); have V5 := Lib.hid (c5w.ownS H2.out (fun b hb h => NHI.out b (H2.out.lt b hb).1 (.inl h))); have C26 : Hid (Chg (fun b => (.slice vo rs.length vc : Value).ownBlock = some b ∨ b = w.heap.size + 1) w2 (w5.setCell ⟨w.heap.size + 1, 0, none⟩ (.slice vo5 (rs.length + 1) vc5))) := Lib.hid (((((Chg.refl _ w2).alloc (.cells #[.slice go x.1.length gc, .int .u64 x.2.1, .bool x.2.2.1, .slice ho x.2.2.2.length hc9] 32)).alloc (.cells #[.slice go x.1.length gc, .int .u64 x.2.1, .bool x.2.2.1, .slice ho x.2.2.2.length hc9] 32)).trans (C5.mono (fun b _ h => .inl h))).set (p := ⟨w.heap.size + 1, 0, none⟩) (fun _ => .inr rfl) _); clear ho5 hg5 c6 c5w b0 b1 b2 b3 p7 q7 pm k6 v6)
      | (refine ⟨trivial, ?_⟩; gi_at_call 12; refine (CallsIn.inRound l (callsIn_wide.2 HMK.out)).mono ?_; unfold MarkP; rintro e w7 ⟨rfl, hc7, -⟩; have C7 := Lib.hid hc7; have w7m := (hc7.block _ (Array.getElem?_eq_some_iff.1 HMZ.out).1 (NSM.out _ (by omega))).trans HMZ.out; have w7o := (hc7.block _ (Array.getElem?_eq_some_iff.1 HOZ.out).1 (NSM.out _ (by omega))).trans HOZ.out; have x7 : w7.cell? ⟨w.heap.size + 1, 0, none⟩ = some (.slice vo5 (rs.length + 1) vc5) := (by rw [cell_of_row _ _ _ _ _ _ w7o]; rfl); have xm : w7.cell? ⟨w.heap.size, 0, none⟩ = some (.int .i64 most) := (by rw [cell_of_row _ _ _ _ _ _ w7m]; rfl); have W7M := Lib.hid w7m; have W7O := Lib.hid w7o; clear hc7 w7m w7o d0 d1 d2 d3 e7 g7))
    all_goals
      have CC : Chg (fun b => ((.slice vo rs.length vc : Value).ownBlock = some b ∨ b = w.heap.size + 1) ∨ ((.slice fo x.1.length fc : Value).ownBlock = some b ∨ (.slice vo9 x.2.2.2.length tc : Value).ownBlock = some b)) W w7 := (C6.out.mono (fun b _ h => .inl h)).trans (C7.out.mono (fun b _ h => .inr h))
      have vt := own_typed O3.out
      have HKF : KeepsFrom w1.heap.size W w7 := ⟨CC.size, fun k o _ hk ho => (CC.block k (Array.getElem?_eq_some_iff.1 hk).1 (fun h => by
        have nc : ∀ cur e f, W.heap[k]? = some (.cells cur e f) → False := fun cur e f h9 => by
          rw [hk] at h9
          cases h9
          cases ho
        rcases h with (h | h) | (h | h)
        · obtain ⟨-, -, cu, hc⟩ := vt k h; exact nc _ _ _ hc
        · subst h; exact nc _ _ _ O1.out
        · obtain ⟨cu, hc⟩ := H1.out.typed k h; exact nc _ _ _ hc
        · obtain ⟨cu, hc⟩ := H2.out.typed k h; exact nc _ _ _ hc)).trans hk⟩
      have hlo := HII.out.lo
      have low : ∀ b, b < w.heap.size → ¬ (fun b => ((.slice vo rs.length vc : Value).ownBlock = some b ∨ b = w.heap.size + 1) ∨ ((.slice fo x.1.length fc : Value).ownBlock = some b ∨ (.slice vo9 x.2.2.2.length tc : Value).ownBlock = some b)) b := fun b hb h => by
        rcases h with (h | h) | (h | h)
        · have := (vt b h).1; omega
        · omega
        · have := (H1.out.lt b h).1; omega
        · have := (H2.out.lt b h).1; omega
      have C57 : Chg (fun b => b = w.heap.size + 1 ∨ ((.slice fo x.1.length fc : Value).ownBlock = some b ∨ (.slice vo9 x.2.2.2.length tc : Value).ownBlock = some b)) w5 w7 := ((Chg.refl _ w5).set (p := ⟨w.heap.size + 1, 0, none⟩) (fun _ => .inl rfl) (.slice vo5 (rs.length + 1) vc5)).trans (C7.out.mono (fun b _ h => .inr h))
      have C27 : Chg (fun b => ((.slice vo rs.length vc : Value).ownBlock = some b ∨ b = w.heap.size + 1) ∨ ((.slice fo x.1.length fc : Value).ownBlock = some b ∨ (.slice vo9 x.2.2.2.length tc : Value).ownBlock = some b)) w2 w7 := (C26.out.mono (fun b _ h => .inl h)).trans (C7.out.mono (fun b _ h => .inr h))
      have own7 := C57.own HO5.out (fun b hb h => by
        obtain ⟨-, -, cu, hc⟩ := own_typed HO5.out b hb
        rcases h with h | h | h
        · subst h; exact absurd (types_apart hc HO5B.out) (by decide)
        · obtain ⟨cu2, hc2⟩ := K5.out.typed b h; exact absurd (types_apart hc hc2) (by decide)
        · obtain ⟨cu2, hc2⟩ := V5.out.typed b h; exact absurd (types_apart hc hc2) (by decide))
      have new7 : ∀ {u : Value} {l9 : List Int}, OwnS w2 W.heap.size 5 u l9 → OwnS w7 w.heap.size 5 u l9 := fun hu => (C27.ownS hu (fun b hb h => by
        have h9 := (hu.lt b hb).1
        rcases h with (h | h) | (h | h)
        · have := O45.out.1 b h; omega
        · omega
        · have := (H1.out.lt b h).2; omega
        · have := (H2.out.lt b h).2; omega)).mono (by omega)
      have old7 : ∀ {u : Value} {l9 : List Int}, OwnS W w.heap.size 5 u l9 → LowV Wb.heap.size u → OwnS w7 w.heap.size 5 u l9 := fun hu hl => CC.ownS hu (fun b hb h => by
        obtain ⟨cu, hc⟩ := hu.typed b hb
        have h9 := hl b hb
        rcases h with (h | h) | (h | h)
        · obtain ⟨-, -, cu2, hc2⟩ := vt b h; exact absurd (types_apart hc hc2) (by decide)
        · subst h; exact absurd (types_apart hc O1.out) (by decide)
        · have := (H1.out.lt b h).1; omega
        · have := (H2.out.lt b h).1; omega)
      have hpl : rs.length = pre.length := by have := congrArg List.length O2.out; simpa using this
      have hfl : (rs ++ [(x, (.slice go x.1.length gc : Value), (.slice ho x.2.2.2.length hc9 : Value))]).flatMap c4 = rs.flatMap c4 ++ [.slice go x.1.length gc, .int .u64 x.2.1, .bool x.2.2.1, .slice ho x.2.2.2.length hc9] := by
        rw [List.flatMap_append, List.flatMap_cons, List.flatMap_nil, List.append_nil]
        rfl
      have HSC : ScI S w w7 tb hs hd L most (pre ++ [x]) w7.heap.size := ⟨HII.out.tab.keep (CC.mono (fun b _ h hS => low b (HSL.out b hS) h)), HII.out.bel.trans (CC.below HII.out.bel.size low), W7M.out,
        ⟨_, rs ++ [(x, .slice go x.1.length gc, .slice ho x.2.2.2.length hc9)], W7O.out, by rw [List.map_append, O2.out]; rfl, by rw [hfl, List.length_append]; exact own7, fun b hb => (own_typed own7 b hb).2.1, fun r hr => by
          rcases List.mem_append.1 hr with hr | hr
          · obtain ⟨q1, q2, q3⟩ := O45.out.2 r hr
            have y1 := old7 q1.1 q2
            have y2 := old7 q1.2.1 q3
            exact ⟨⟨y1, y2, q1.2.2⟩, fun b hb => (y1.lt b hb).2, fun b hb => (y2.lt b hb).2⟩
          · rw [List.mem_singleton] at hr
            subst hr
            exact ⟨⟨new7 K1.out, new7 K2.out, HSU.out.2⟩, fun b hb => ((new7 K1.out).lt b hb).2, fun b hb => ((new7 K2.out).lt b hb).2⟩⟩,
        fun b hS => by have := HSL.out b hS; have := CC.size; omega, ⟨by have := CC.size; omega, Nat.le_refl _⟩⟩
      refine ⟨HKF, HSC, ?_⟩
      simp only [List.length_append, List.length_singleton]
      omega
end Mt
end Go.Proofs.Ytgkgfghmpimaoaa
