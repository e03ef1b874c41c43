/- wal's statements: operations written over. -/
import Derived.Test.YtlfelpbcnpjneaaWalBats
import Derived.Deep.LoopGhost
namespace Go.Proofs.Ytlfelpbcnpjneaa
open Go.RowKit
namespace Wal
theorem list_ch {α : Type} {P : Nat → α → Prop} : ∀ n, (∀ i, i < n → ∃ y, P i y) → ∃ l : List α, l.length = n ∧ ∀ i y, l[i]? = some y → P i y
  | 0, _ => ⟨[], rfl, fun i y h => by simp at h⟩
  | n + 1, h => by
    obtain ⟨l, h1, h2⟩ := list_ch n (fun i hi => h i (by omega))
    obtain ⟨y, hy⟩ := h n (by omega)
    refine ⟨l ++ [y], by simp [h1], fun i z hz => ?_⟩
    rcases Nat.lt_or_ge i n with hi | hi
    · rw [List.getElem?_append_left (by omega)] at hz
      exact h2 i z hz
    · rw [List.getElem?_append_right (by omega)] at hz
      have : i = n := by
        rcases Nat.lt_or_ge (i - l.length) 1 with k | k
        · omega
        · rw [List.getElem?_eq_none (by simpa using k)] at hz; cases hz
      subst this
      simp [h1] at hz
      subst hz
      exact hy
/-- what may be written over keeps its shape -/
def Shp (base : Nat) (w w' : World) : Prop :=
  Below base w w' ∧ (∀ v l, OwnS w base 5 v l → ∃ l', l'.length = l.length ∧ OwnS w' base 5 v l') ∧ (∀ v l, OwnOps w base v l → ∃ l', l'.length = l.length ∧ OwnOps w' base v l') ∧
  (∀ v n xs, w.ownsRow base 25 2 v n xs → w'.ownsRow base 25 2 v n xs)
theorem Shp.refl (base : Nat) (w : World) : Shp base w w := ⟨Below.refl _ _, fun _ l h => ⟨l, rfl, h⟩, fun _ l h => ⟨l, rfl, h⟩, fun _ _ _ h => h⟩
theorem Shp.trans {base : Nat} {a b c : World} (h : Shp base a b) (k : Shp base b c) : Shp base a c := by
  refine ⟨h.1.trans k.1, fun v l hv => ?_, fun v l hv => ?_, fun v n xs hv => k.2.2.2 v n xs (h.2.2.2 v n xs hv)⟩
  · obtain ⟨l1, e1, h1⟩ := h.2.1 v l hv
    obtain ⟨l2, e2, h2⟩ := k.2.1 v l1 h1
    exact ⟨l2, e2.trans e1, h2⟩
  · obtain ⟨l1, e1, h1⟩ := h.2.2.1 v l hv
    obtain ⟨l2, e2, h2⟩ := k.2.2.1 v l1 h1
    exact ⟨l2, e2.trans e1, h2⟩
theorem ownS_byte {w : World} {base : Nat} {v : Value} {l : List Int} {g k : Nat} {x : Int} (h : OwnS w base 5 v l) (hx : 0 ≤ x ∧ x ≤ 255) :
    ∃ l', l'.length = l.length ∧ OwnS (w.setCell ⟨g, k, none⟩ (.int .u8 x)) base 5 v l' := by
  rcases h.2 with ⟨rfl, rfl⟩ | ⟨g', cap', cur, rfl, h2, h3, h4, h5, h6, h7⟩
  · exact ⟨[], rfl, Rng.nil, .inl ⟨rfl, rfl⟩⟩
  · by_cases hg : g' = g
    · subst hg
      refine ⟨l.set k x, by rw [List.length_set], fun y hy => ?_, .inr ⟨g', cap', cur.setIfInBounds k (.int .u8 x), by rw [List.length_set], h2, heap_setCell_same w g' k cur 5 _ h3, by rw [List.length_set]; exact h4, by simpa using h5, h6, ?_⟩⟩
      · rcases List.mem_or_eq_of_mem_set hy with h1 | h1
        · exact h.1 y h1
        · rw [h1]; exact hx
      · rw [List.length_set, Array.toList_setIfInBounds, List.take_set, h7, List.map_set]
    · exact ⟨l, rfl, h.kept (gb_one (g := g) (o := k) (.int .u8 x)) (.inr (fun e => hg (by simpa [Value.ownBlock] using e)))⟩
theorem row_ne {w : World} {base n size g : Nat} {e e' : TypeId} {v : Value} {xs : List Value} {cur : Array Value} {fr : Nat × Nat} (k : w.ownsRow base e size v n xs) (hg : w.heap[g]? = some (.cells cur e' fr)) (hne : e ≠ e') : v.ownBlock = none ∨ v.ownBlock ≠ some g := by
  rcases k.2 with ⟨rfl, _⟩ | ⟨g', cap', cur', rfl, k2, k3, _⟩
  · exact .inl rfl
  · refine .inr (fun hh => ?_)
    have hgg : g' = g := by simpa [Value.ownBlock] using hh
    subst hgg
    rw [hg] at k3
    simp only [Option.some.injEq, Obj.cells.injEq] at k3
    exact hne k3.2.1.symm
/-- a byte of a row of bytes written -/
theorem shp_byte {w : World} {base g k : Nat} {cur : Array Value} {fr : Nat × Nat} {x : Int} (hg : w.heap[g]? = some (.cells cur 5 fr)) (hb : base ≤ g) (hx : 0 ≤ x ∧ x ≤ 255) : Shp base w (w.setCell ⟨g, k, none⟩ (.int .u8 x)) := by
  have hgb := gb_one (w := w) (g := g) (o := k) (.int .u8 x)
  refine ⟨(Below.refl _ _).setCell (p := ⟨g, k, none⟩) hb _, fun v l hv => ownS_byte hv hx, fun v l hv => ?_, fun v n xs hv => hv.kept hgb (row_ne hv hg (by decide))⟩
  obtain ⟨xs, h1, h2⟩ := hv
  obtain ⟨l', hl, hl'⟩ := list_ch (P := fun i (x' : Opr) => ∃ kv vv, xs[i * 3]? = some (.bool x'.1) ∧ xs[i * 3 + 1]? = some kv ∧ xs[i * 3 + 2]? = some vv ∧ OwnS (w.setCell ⟨g, k, none⟩ (.int .u8 x)) base 5 kv x'.2.1 ∧ OwnS (w.setCell ⟨g, k, none⟩ (.int .u8 x)) base 5 vv x'.2.2) l.length (fun i hi => by
    obtain ⟨kv, vv, k1, k2, k3, k4, k5⟩ := h2 i _ (List.getElem?_eq_getElem hi)
    obtain ⟨kl, -, m1⟩ := ownS_byte (g := g) (k := k) k4 hx
    obtain ⟨vl, -, m2⟩ := ownS_byte (g := g) (k := k) k5 hx
    exact ⟨(l[i].1, kl, vl), kv, vv, k1, k2, k3, m1, m2⟩)
  exact ⟨l', hl, xs, by rw [hl]; exact h1.kept hgb (row_ne h1 hg (by decide)), hl'⟩
/-- the cells of an element of a row of operations zeroed -/
theorem shp_zero {w : World} {base j n cap : Nat} {g : Nat} {xs : List Value} (h : w.ownsRow base 43 3 (.slice (some ⟨g, 0, none⟩) n cap) n xs) (hj : j < n) :
    Shp base w (((w.setCell ⟨g, j * 3, none⟩ (.bool false)).setCell ⟨g, j * 3 + 1, none⟩ (.slice none 0 0)).setCell ⟨g, j * 3 + 2, none⟩ (.slice none 0 0)) := by
  have hgb : w.grownBy (((w.setCell ⟨g, j * 3, none⟩ (.bool false)).setCell ⟨g, j * 3 + 1, none⟩ (.slice none 0 0)).setCell ⟨g, j * 3 + 2, none⟩ (.slice none 0 0)) (some g) := gb_set (gb_set (gb_set (gb_refl w (some g)) (.inl rfl) _) (.inl rfl) _) (.inl rfl) _
  obtain ⟨hbg, hgw⟩ := h.lt g rfl
  obtain ⟨cur, hcur⟩ : ∃ cur, w.heap[g]? = some (.cells cur 43 (0, 0)) := by
    rcases h.2 with ⟨hv, _⟩ | ⟨g', cap', cur, hv, _, h3, _⟩
    · cases hv
    · simp only [Value.slice.injEq, Option.some.injEq, Addr.mk.injEq, and_true, true_and] at hv
      obtain ⟨rfl, rfl⟩ := hv
      exact ⟨cur, h3⟩
  have keepS : ∀ v l, OwnS w base 5 v l → OwnS (((w.setCell ⟨g, j * 3, none⟩ (.bool false)).setCell ⟨g, j * 3 + 1, none⟩ (.slice none 0 0)).setCell ⟨g, j * 3 + 2, none⟩ (.slice none 0 0)) base 5 v l := fun v l hv =>
    hv.kept hgb (ownS_row_ne hv h (by decide))
  refine ⟨(((Below.refl _ _).setCell (p := ⟨g, j * 3, none⟩) hbg _).setCell (p := ⟨g, j * 3 + 1, none⟩) hbg _).setCell (p := ⟨g, j * 3 + 2, none⟩) hbg _, fun v l hv => ⟨l, rfl, keepS v l hv⟩, fun v l hv => ?_, fun v m ys hv => hv.kept hgb (row_ne hv hcur (by decide))⟩
  obtain ⟨ys, h1, h2⟩ := hv
  by_cases hb : v.ownBlock = some g
  · rcases h1.2 with ⟨rfl, _⟩ | ⟨g', cap', cur', rfl, k2, k3, k4, k5, k6, k7⟩
    · cases hb
    · have hgg : g' = g := by simpa [Value.ownBlock] using hb
      subst hgg
      have s1 := heap_setCell_same w g' (j * 3) cur' 43 (.bool false) k3
      have s2 := heap_setCell_same (w.setCell ⟨g', j * 3, none⟩ (.bool false)) g' (j * 3 + 1) _ 43 (.slice none 0 0) s1
      have s3 := heap_setCell_same ((w.setCell ⟨g', j * 3, none⟩ (.bool false)).setCell ⟨g', j * 3 + 1, none⟩ (.slice none 0 0)) g' (j * 3 + 2) _ 43 (.slice none 0 0) s2
      have hyl : ys.length = l.length * 3 := h1.1
      refine ⟨l.set j (false, [], []), by rw [List.length_set], ((ys.set (j * 3) (.bool false)).set (j * 3 + 1) (.slice none 0 0)).set (j * 3 + 2) (.slice none 0 0), ⟨by simpa using hyl, .inr ⟨g', cap', _, by rw [List.length_set], k2, s3, by rw [List.length_set]; exact k4, k5, by simpa using k6, ?_⟩⟩, fun i x hx => ?_⟩
      · rw [List.length_set]
        simp only [Array.toList_setIfInBounds]
        rw [List.take_set, List.take_set, List.take_set, k7]
      · by_cases hij : i = j
        · subst hij
          have hil : i < l.length := by
            have := (List.getElem?_eq_some_iff.1 hx).1
            rwa [List.length_set] at this
          rw [List.getElem?_set_self hil] at hx
          cases hx
          refine ⟨.slice none 0 0, .slice none 0 0, ?_, ?_, ?_, ⟨Rng.nil, .inl ⟨rfl, rfl⟩⟩, ⟨Rng.nil, .inl ⟨rfl, rfl⟩⟩⟩
          · rw [List.getElem?_set_ne (by omega), List.getElem?_set_ne (by omega), List.getElem?_set_self (by omega)]
          · rw [List.getElem?_set_ne (by omega), List.getElem?_set_self (by rw [List.length_set]; omega)]
          · rw [List.getElem?_set_self (by rw [List.length_set, List.length_set]; omega)]
        · rw [List.getElem?_set_ne (fun h => hij h.symm)] at hx
          obtain ⟨kv, vv, m1, m2, m3, m4, m5⟩ := h2 i x hx
          refine ⟨kv, vv, ?_, ?_, ?_, keepS _ _ m4, keepS _ _ m5⟩
          · rw [List.getElem?_set_ne (by omega), List.getElem?_set_ne (by omega), List.getElem?_set_ne (by omega)]; exact m1
          · rw [List.getElem?_set_ne (by omega), List.getElem?_set_ne (by omega), List.getElem?_set_ne (by omega)]; exact m2
          · rw [List.getElem?_set_ne (by omega), List.getElem?_set_ne (by omega), List.getElem?_set_ne (by omega)]; exact m3
  · refine ⟨l, rfl, ys, h1.kept hgb (.inr hb), fun i x hx => ?_⟩
    obtain ⟨kv, vv, m1, m2, m3, m4, m5⟩ := h2 i x hx
    exact ⟨kv, vv, m1, m2, m3, keepS _ _ m4, keepS _ _ m5⟩
theorem own_frozen {w : World} {base n cap size g : Nat} {e : TypeId} {xs : List Value} (h : w.ownsRow base e size (.slice (some ⟨g, 0, none⟩) n cap) n xs) (o : Nat) : w.frozen? ⟨g, o, none⟩ = false := by
  rcases h.2 with ⟨hv, _⟩ | ⟨g', cap', cur, hv, _, h3, _⟩
  · cases hv
  · simp only [Value.slice.injEq, Option.some.injEq, Addr.mk.injEq, and_true, true_and] at hv
    obtain ⟨rfl, rfl⟩ := hv
    simp [World.frozen?, h3]
theorem ownS_heap {w : World} {base n cap g : Nat} {l : List Int} (h : OwnS w base 5 (.slice (some ⟨g, 0, none⟩) n cap) l) : ∃ cur, w.heap[g]? = some (.cells cur 5 (0, 0)) ∧ base ≤ g := by
  rcases h.2 with ⟨hv, _⟩ | ⟨g', cap', cur, hv, hb, h3, _⟩
  · cases hv
  · simp only [Value.slice.injEq, Option.some.injEq, Addr.mk.injEq, and_true, true_and] at hv
    obtain ⟨rfl, -, -⟩ := hv
    exact ⟨cur, h3, hb⟩
/-- the inner loops' relation: rows stay, bytes keep their shape -/
def MkRel (w : World) (base n K V : Nat) (v kv vv : Value) (xs : List Value) (wr : World) : Prop :=
  Shp base w wr ∧ wr.ownsRow base 43 3 v n xs ∧ (∃ kl, kl.length = K ∧ OwnS wr base 5 kv kl) ∧ (∃ vl, vl.length = V ∧ OwnS wr base 5 vv vl)
theorem MkRel.byte {w wr : World} {base n K V g k : Nat} {v kv vv : Value} {xs : List Value} {cur : Array Value} {fr : Nat × Nat} {x : Int} (h : MkRel w base n K V v kv vv xs wr) (hg : wr.heap[g]? = some (.cells cur 5 fr)) (hb : base ≤ g) (hx : 0 ≤ x ∧ x ≤ 255) :
    MkRel w base n K V v kv vv xs (wr.setCell ⟨g, k, none⟩ (.int .u8 x)) := by
  obtain ⟨h1, h2, ⟨kl, e1, h3⟩, ⟨vl, e2, h4⟩⟩ := h
  refine ⟨h1.trans (shp_byte hg hb hx), h2.kept (gb_one (g := g) (o := k) (.int .u8 x)) (row_ne h2 hg (by decide)), ?_, ?_⟩
  · obtain ⟨l', e, m⟩ := ownS_byte (g := g) (k := k) h3 hx
    exact ⟨l', e.trans e1, m⟩
  · obtain ⟨l', e, m⟩ := ownS_byte (g := g) (k := k) h4 hx
    exact ⟨l', e.trans e2, m⟩
set_option maxRecDepth 100000 in
set_option maxHeartbeats 4000000 in
theorem mark_any (base : Nat) (v : Value) (l : List Opr) (w : World) (h : OwnOps w base v l) : Calls Try.prog 13 #[v] w fun e w' => e = .returned (.tuple #[]) ∧ Shp base w w' := by
  have hm := h.isOps.max
  obtain ⟨xs0, hxs0, -⟩ := id h
  obtain ⟨ao, cap, rfl, hnc, hcap, -, -⟩ := own_form hxs0
  have HO := Lib.hid h
  obtain ⟨n, hn⟩ : ∃ n, l.length = n := ⟨_, rfl⟩
  rw [hn] at hm hnc
  rw [hn]
  have HN := Lib.hid hn
  clear hxs0 h hn
  go_enter Try.func13, Try.ntmps13
  go_wp2_with fail
  go_loopg [2] n (fun gk iv wr => ∃ k, gk = n - k ∧ iv = .int .i64 k ∧ k ≤ n ∧ Hid (Shp base w wr))
  case atStart => exact ⟨0, rfl, rfl, Nat.zero_le _, Shp.refl _ _⟩
  case round =>
    obtain ⟨k, hgk, rfl, hkn, hshp⟩ := hrel
    have HG := Lib.hid hgk
    clear hgk
    by_cases hlt : k < n
    · obtain ⟨l1, hl1, xs, hx1, hx2⟩ := hshp.out.2.2.1 _ l HO.out
      have hl1n : l1.length = n := hl1.trans HN.out
      obtain ⟨x, hxx⟩ : ∃ x, l1[k]? = some x := ⟨_, List.getElem?_eq_getElem (by omega)⟩
      obtain ⟨kv, vv, m1, m2, m3, m4, m5⟩ := hx2 k x hxx
      rw [hl1, HN.out] at hx1
      obtain ⟨g, rfl, hbg, -, -⟩ := own_cell hx1 m1
      obtain ⟨K, hK⟩ : ∃ K, x.2.1.length = K := ⟨_, rfl⟩
      obtain ⟨V, hV⟩ : ∃ V, x.2.2.length = V := ⟨_, rfl⟩
      have hrel0 : MkRel w base n K V (.slice (some ⟨g, 0, none⟩) n cap) kv vv xs wr := ⟨hshp.out, hx1, ⟨_, hK, m4⟩, ⟨_, hV, m5⟩⟩
      obtain ⟨ko, kcap, rfl, hkc, hkc2, -, -⟩ := m4.form
      obtain ⟨vo, vcap, rfl, hvc, hvc2, -, -⟩ := m5.form
      rw [hK] at hrel0 hkc m2
      rw [hV] at hrel0 hvc m3
      have M1 := Lib.hid m1
      have M2 := Lib.hid m2
      have M3 := Lib.hid m3
      have HR0 := Lib.hid hrel0
      have hk0 : (k : Int) < n := by omega
      have hk1 : 0 ≤ (k : Int) := by omega
      have hw1 := IntWalk.i64_in ((k : Int) + 1) (by omega)
      clear hx1 hx2 m1 m2 m3 m4 m5 hrel0 hl1 hl1n hxx hK hV
      go_wp2_with fail
      go_loopg [3] K (fun gk jv wr' => ∃ j, gk = K - j ∧ jv = .int .i64 j ∧ j ≤ K ∧ Hid (MkRel w base n K V (.slice (some ⟨g, 0, none⟩) n cap) (.slice ko K kcap) (.slice vo V vcap) xs wr'))
      case atStart => exact ⟨0, rfl, rfl, Nat.zero_le _, HR0.out⟩
      case round =>
        obtain ⟨j, hgj, rfl, hjK, hmk⟩ := hrel
        have HGJ := Lib.hid hgj
        clear hgj
        obtain ⟨_, e1, -, -, c1⟩ := own_cell hmk.out.2.1 M2.out
        cases e1
        by_cases hj : j < K
        · obtain ⟨kl, hkl, hks⟩ := hmk.out.2.2.1
          obtain ⟨gk', x, rfl, -, -, -, hcx, hfx⟩ := hks.at_ (k := j) (by omega)
          obtain ⟨cur, hcur, hbk⟩ := ownS_heap hks
          have hj0 : (j : Int) < K := by omega
          have hj1 : 0 ≤ (j : Int) := by omega
          have hw2 := IntWalk.i64_in ((j : Int) + 1) (by omega)
          have HNEW := Lib.hid (hmk.out.byte (k := j) (x := 77) hcur hbk (by decide))
          clear hkl hks hcur
          go_wp2_with fail
          go_roundg (K - (j + 1))
          case measure => have := HGJ.out; omega
          case rel => exact ⟨j + 1, rfl, by go_num, by omega, HNEW.out⟩
        · have hj0 : ¬ (j : Int) < K := by omega
          obtain ⟨_, e2, -, -, c2⟩ := own_cell hmk.out.2.1 M3.out
          cases e2
          have HMK := Lib.hid hmk.out
          go_wp2_with fail
          go_loopg [4] V (fun gk jv wr' => ∃ j, gk = V - j ∧ jv = .int .i64 j ∧ j ≤ V ∧ Hid (MkRel w base n K V (.slice (some ⟨g, 0, none⟩) n cap) (.slice ko K kcap) (.slice vo V vcap) xs wr'))
          case atStart => exact ⟨0, rfl, rfl, Nat.zero_le _, HMK.out⟩
          case round =>
            obtain ⟨q, hgq, rfl, hqV, hmq⟩ := hrel
            have HGQ := Lib.hid hgq
            clear hgq c1 c2
            obtain ⟨_, e3, -, -, c3⟩ := own_cell hmq.out.2.1 M3.out
            cases e3
            by_cases hq : q < V
            · obtain ⟨vl, hvl, hvs⟩ := hmq.out.2.2.2
              obtain ⟨gv', y, rfl, -, -, -, hcy, hfy⟩ := hvs.at_ (k := q) (by omega)
              obtain ⟨cur, hcur, hbk⟩ := ownS_heap hvs
              have hq0 : (q : Int) < V := by omega
              have hq1 : 0 ≤ (q : Int) := by omega
              have hw2 := IntWalk.i64_in ((q : Int) + 1) (by omega)
              have HNEW := Lib.hid (hmq.out.byte (k := q) (x := 77) hcur hbk (by decide))
              clear hvl hvs hcur
              go_wp2_with fail
              go_roundg (V - (q + 1))
              case measure => have := HGQ.out; omega
              case rel => exact ⟨q + 1, rfl, by go_num, by omega, HNEW.out⟩
            · have hq0 : ¬ (q : Int) < V := by omega
              have HROW := Lib.hid hmq.out.2.1
              obtain ⟨_, e4, -, -, c4⟩ := own_cell HROW.out M1.out
              cases e4
              obtain ⟨_, e5, -, -, c5⟩ := own_cell HROW.out M2.out
              cases e5
              have f0 := own_frozen HROW.out (k * 3)
              have f1 := own_frozen HROW.out (k * 3 + 1)
              have f2 := own_frozen HROW.out (k * 3 + 2)
              have HZ := Lib.hid (hmq.out.1.trans (shp_zero HROW.out hlt))
              go_wp2_with fail
              go_roundg (n - (k + 1))
              case measure => have := HG.out; omega
              case rel => exact ⟨k + 1, rfl, by go_num, by omega, HZ.out⟩
    · have hk0 : ¬ (k : Int) < n := by omega
      go_wp2_with fail
      go_end0
      exact ⟨rfl, hshp.out⟩
end Wal
end Go.Proofs.Ytlfelpbcnpjneaa
