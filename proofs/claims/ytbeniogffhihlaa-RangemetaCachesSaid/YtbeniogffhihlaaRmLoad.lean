/- rangemeta: what each statement asks first. rangemeta: ranges in memory of their own; List, Load. rangemeta: which ranges are a table. rangemeta: Load, List. -/
import Derived.Test.YtbeniogffhihlaaRmSplit2
import Derived.Maps.OwnOps
import Derived.Maps.OwnSet
import Derived.Maps.Views
set_option linter.unusedVariables false
set_option linter.unusedSimpArgs false
namespace Go.Proofs.Ytbeniogffhihlaa
open Go.RowKit
namespace Rm
theorem new_own (w : World) : OwnRgs (newW w) w.heap.size (.slice (some ⟨w.heap.size, 0, none⟩) 1 1) [(1, [], [], 1)] := by
  refine ⟨[((1, [], [], 1), .slice none 0 0, .slice none 0 0)], rfl, ⟨rfl, .inr ⟨w.heap.size, 1, #[.int .i64 1, .slice none 0 0, .slice none 0 0, .int .i64 1], rfl, Nat.le_refl _, ?_, Nat.le_refl _, by simp [maxLen], rfl, rfl⟩⟩, fun r hr => ?_⟩
  · have h := heap_alloc_old (w.alloc (.cells #[.int .i64 1, .slice none 0 0, .slice none 0 0, .int .i64 1] 39)) (.cells #[.slice (some ⟨w.heap.size, 0, none⟩) 1 1] 80) (r := w.heap.size) (by simp)
    exact h.trans (heap_alloc_new w _)
  · rw [List.mem_singleton] at hr
    subst hr
    exact ⟨⟨Rng.nil, .inl ⟨rfl, rfl⟩⟩, ⟨Rng.nil, .inl ⟨rfl, rfl⟩⟩, by unfold I64; simp, by unfold I64; simp⟩
theorem new_tab (w : World) : (newW w).heap[w.heap.size + 1]? = some (.cells #[.slice (some ⟨w.heap.size, 0, none⟩) 1 1] 80 (0, 0)) := by
  have h := heap_alloc_new (w.alloc (.cells #[.int .i64 1, .slice none 0 0, .slice none 0 0, .int .i64 1] 39)) (.cells #[.slice (some ⟨w.heap.size, 0, none⟩) 1 1] 80)
  have e : (w.alloc (.cells #[.int .i64 1, .slice none 0 0, .slice none 0 0, .int .i64 1] 39)).heap.size = w.heap.size + 1 := by simp
  rw [e] at h
  exact h
theorem newW_size (w : World) : (newW w).heap.size = w.heap.size + 2 := by simp [newW]
theorem newW_below (w : World) : Below w.heap.size w (newW w) := ((Below.refl _ _).alloc (Nat.le_refl _) _).alloc (by simp) _
set_option maxRecDepth 100000 in
set_option maxHeartbeats 2000000 in
theorem awake_any (w : World) : Calls Try.prog 10 #[] w (Ret (.bool true) w) := by
  have e1 : splitE [(1, [], [], 1)] 1 2 [109] = 0 := by decide
  have e2 : splitR [(1, [], [], 1)] 1 2 [109] = [(1, [], [109], 2), (2, [109], [], 2)] := by decide
  have e3 : (findF [(1, [], [109], 2), (2, [109], [], 2)] [122]).getD zeroR = (2, [109], [], 2) := by decide
  have E1 := Lib.hid e1; have E2 := Lib.hid e2; have E3 := Lib.hid e3
  clear e1 e2 e3
  have kc := fun (w : World) (C : Array Value) (n c : Nat) => Lib.run_convert_bytes_const (P := Try.prog) w 23 5 C n c Try.underlying23 Try.underlying5
  go_enter Try.func10, Try.ntmps10
  go_wp2_with fail
  refine (new_any _).mono ?_
  rintro e w1 ⟨rfl, hw⟩
  have hs : w1.heap.size = w.heap.size + 2 := by rw [← hw]; exact newW_size w
  have HT : Hid (w1.heap[w.heap.size + 1]? = some (.cells #[.slice (some ⟨w.heap.size, 0, none⟩) 1 1] 80 (0, 0))) := Lib.hid (by rw [← hw]; exact new_tab w)
  have HO : Hid (OwnRgs w1 w.heap.size (.slice (some ⟨w.heap.size, 0, none⟩) 1 1) [(1, [], [], 1)]) := Lib.hid (by rw [← hw]; exact new_own w)
  have HB : Hid (Below w.heap.size w w1) := Lib.hid (by rw [← hw]; exact newW_below w)
  have HS := Lib.hid hs
  clear hs hw
  have ba : Below w1.heap.size w1 (w1.alloc (.cells #[.int .u8 109] 5 (1, 2))) := (Below.refl _ _).alloc (Nat.le_refl _) _
  have KB : IsB (w1.alloc (.cells #[.int .u8 109] 5 (1, 2))) (.slice (some ⟨w1.heap.size, 0, none⟩) 1 1) [109] := isB_const w1 [109] (Rng.cons (by omega) Rng.nil) (by decide) 5 (1, 2)
  have HSP := Lib.hid (split_any w.heap.size (w.heap.size + 1) _ (.slice (some ⟨w1.heap.size, 0, none⟩) 1 1) [(1, [], [], 1)] 1 2 [109] (w1.alloc (.cells #[.int .u8 109] 5 (1, 2))) (by omega) ((ba.block _ (by have := HS.out; omega)).trans HT.out) (HO.out.below ba) (by simp) (by simp) (by intro x hx; rw [List.mem_singleton] at hx; subst hx; unfold Fair; simp) KB (by unfold I64; omega) (by unfold I64; omega) (by simp; have := HS.out; omega))
  have GA := Lib.hid (HB.out.trans (ba.mono HB.out.size))
  clear ba KB
  go_wp2_with fail
  refine HSP.out.mono ?_
  unfold SplitP
  rw [E1.out, E2.out]
  rintro e w2 ⟨rfl, v2, ht2, ho2, hc2, -⟩
  have HT2 := Lib.hid ht2
  have HO2 := Lib.hid ho2
  have zl : w.heap.size + 1 < w2.heap.size := (Array.getElem?_eq_some_iff.1 ht2).1
  have G2 := Lib.hid (GA.out.trans (hc2.below GA.out.size (fun b hb h => by rcases h with h | h; exact absurd h (by omega); exact absurd (Option.some.inj (show some w.heap.size = some b from h)) (by omega))))
  obtain ⟨g, cap, rfl⟩ := ho2.slice (by simp)
  clear ht2 ho2 hc2 HSP
  have ba : Below w2.heap.size w2 (w2.alloc (.cells #[.int .u8 122] 5 (1, 2))) := (Below.refl _ _).alloc (Nat.le_refl _) _
  have KB : IsB (w2.alloc (.cells #[.int .u8 122] 5 (1, 2))) (.slice (some ⟨w2.heap.size, 0, none⟩) 1 1) [122] := isB_const w2 [122] (Rng.cons (by omega) Rng.nil) (by decide) 5 (1, 2)
  have hcell : w2.cell? ⟨w.heap.size + 1, 0, none⟩ = some (.slice (some ⟨g, 0, none⟩) 2 cap) := by rw [cell_of_row w2 _ 0 _ _ _ HT2.out]; rfl
  have HF := Lib.hid (tFind_any (w.heap.size + 1) _ (.slice (some ⟨w2.heap.size, 0, none⟩) 1 1) [(1, [], [109], 2), (2, [109], [], 2)] [122] (w2.alloc (.cells #[.int .u8 122] 5 (1, 2))) ((ba.cell (p := ⟨w.heap.size + 1, 0, none⟩) zl).trans hcell) (by simp; omega) ((HO2.out.below ba).isRgs) KB (by intro x hx; simp only [List.mem_cons, List.not_mem_nil, or_false] at hx; rcases hx with rfl | rfl <;> simp))
  have G3 := Lib.hid (G2.out.trans (ba.mono G2.out.size))
  clear ba KB hcell
  go_wp2_with fail
  refine HF.out.mono ?_
  unfold OwnP
  rw [E3.out]
  rintro e w3 ⟨fv, tv, rfl, h1, h2, hb⟩
  obtain ⟨fo1, fc1, rfl, -, -, -, -⟩ := h1.form
  obtain ⟨to1, tc1, rfl, -, -, -, -⟩ := h2.form
  have G4 := Lib.hid (bel_call G3.out hb)
  clear h1 h2 hb HF
  go_wp2_with fail
  go_ret
  exact ⟨rfl, bel_alloc G4.out _⟩
end Rm
end Go.Proofs.Ytbeniogffhihlaa
namespace Go.Proofs.Ytbeniogffhihlaa
open Go.RowKit
namespace Rm
theorem GoodV.grown {w w1 : World} {base : Nat} {r : RV} {v : Value} {n : Nat} {xs : List Value} (h : GoodV w base r) (ho : w.ownsRow base 39 4 v n xs) (k : w.grownBy w1 v.ownBlock) : GoodV w1 base r :=
  h.chg (Chg.of_grown k (S := fun b => v.ownBlock = some b) (fun _ _ h => h)) (fun b cur hb hv => by
    obtain ⟨-, -, c, hc⟩ := own_typed ho b hv
    exact absurd (types_apart hc hb) (by decide))
theorem OwnRgs.push {w w1 : World} {base : Nat} {v v' : Value} {rs : List RV} {r : RV} (ho : w.ownsRow base 39 4 v rs.length (rs.flatMap cells4)) (hg : ∀ r ∈ rs, GoodV w base r) (hr : GoodV w base r)
    (h1 : w1.ownsRow base 39 4 v' (rs.length + 1) (rs.flatMap cells4 ++ cells4 r)) (k : w.grownBy w1 v.ownBlock) : OwnRgs w1 base v' (rs.map (·.1) ++ [r.1]) := by
  refine ⟨rs ++ [r], by simp, ?_, fun s hs => ?_⟩
  · rw [List.length_append, List.length_map, List.flatMap_append, List.flatMap_cons, List.flatMap_nil, List.append_nil]
    exact h1
  · rcases List.mem_append.1 hs with hs | hs
    · exact (hg s hs).grown ho k
    · rw [List.mem_singleton] at hs
      subst hs
      exact hr.grown ho k
def OwnedP (l : List RangeD) (w : World) (e : Ending) (w' : World) : Prop := ∃ v, e = .returned v ∧ OwnRgs w' w.heap.size v l ∧ Below w.heap.size w w'
set_option maxRecDepth 100000 in
set_option maxHeartbeats 4000000 in
theorem owned_any (v : Value) (l : List RangeD) (w : World) (h : IsRgs w v l) (hl : l.length ≤ 1000) (hs : ∀ x ∈ l, x.2.1.length ≤ 140737488355328 ∧ x.2.2.1.length ≤ 140737488355328) :
    Calls Try.prog 48 #[v] w (OwnedP l w) := by
  obtain ⟨i0, hi0, hz0, hz1, hz2⟩ := info_parts infoRg
  have HI := Lib.hid hi0; have HZ0 := Lib.hid hz0; have HZ1 := Lib.hid hz1; have HZ2 := Lib.hid hz2
  clear hi0 hz0 hz1 hz2
  obtain ⟨ao, cap, rfl, -, -, -⟩ := h.form
  have HB := Lib.hid h
  have HS := Lib.hid hs
  clear h hs
  go_enter Try.func48, Try.ntmps48
  go_wp2_with (at_make; refine wpList_make_own w rfl _ _ _ rfl w.heap.size 39 i0 _ 4 Try.underlying29 HI.out HZ0.out HZ1.out .i64 .i64 _ l.length rfl rfl rfl (by rw [HZ2.out]; omega) (by unfold maxLen; omega) (Nat.le_refl _) ?_; intro w1 hown hg; have HO1 := Lib.hid hown; have HG1 := Lib.hid hg; clear hown hg)
  go_loopw [3, 11] (fun v i wr => ∃ k : Nat, k ≤ l.length ∧ i = .int .i64 k ∧ Hid (OwnRgs wr w.heap.size v (l.take k)) ∧ Hid (Below w.heap.size w wr)) (fun _ i _ => l.length - (intOf i).toNat)
  case atStart => exact ⟨0, Nat.zero_le _, rfl, ⟨[], rfl, HO1.out, fun _ h => by cases h⟩, below_own HG1.out (Nat.le_refl _) (fun k hk => by cases hk)⟩
  case round =>
    obtain ⟨k, hk, rfl, hown, hbel⟩ := hrel
    by_cases hlt : k < l.length
    · obtain ⟨b, o, x, fv, tv, hao, hbb, hx, c0', c1', c2', c3', hfv, htv, hI⟩ := IsRgs.at4 HB.out hlt
      subst hao
      have c0 := (hbel.out.cell (p := ⟨b, o + k * 4, none⟩) hbb).trans c0'
      have c1 := (hbel.out.cell (p := ⟨b, o + k * 4 + 1, none⟩) hbb).trans c1'
      have c2 := (hbel.out.cell (p := ⟨b, o + k * 4 + 2, none⟩) hbb).trans c2'
      have c3 := (hbel.out.cell (p := ⟨b, o + k * 4 + 3, none⟩) hbb).trans c3'
      obtain ⟨s1, s2⟩ := HS.out x (List.mem_of_getElem? hx.out)
      obtain ⟨fo, fc, rfl, -, -, -⟩ := hfv.out.form
      obtain ⟨to, tc, rfl, -, -, -⟩ := htv.out.form
      have HC := Lib.hid (own_any _ _ x.1 x.2.2.2 x.2.1 x.2.2.1 (wr.alloc (.cells #[.int .i64 x.1, .slice fo x.2.1.length fc, .slice to x.2.2.1.length tc, .int .i64 x.2.2.2] 39)) ((hfv.out.below hbel.out).alloc _) ((htv.out.below hbel.out).alloc _) s1 s2)
      unfold OwnP at HC
      have hl0 : (k : Int) < l.length := by omega
      have hl1 : 0 ≤ (k : Int) := by omega
      have hw1 := IntWalk.i64_in ((k : Int) + 1) (by omega)
      clear c0' c1' c2' c3'
      obtain ⟨rs, hrs, hro, hrg⟩ := hown.out
      have htk : (l.take k).length = k := by rw [List.length_take]; omega
      rw [htk] at hro
      clear htk
      obtain ⟨vo, vc, rfl, -, -, -, -⟩ := own_form hro
      have HRS := Lib.hid hrs
      have HRO := Lib.hid hro
      have HRG := Lib.hid hrg
      clear hrs hro hrg
      go_wp2_with fail
      refine HC.out.mono ?_
      rintro e w2 ⟨v1, v2, rfl, h1, h2, hb⟩
      have H1 := Lib.hid h1
      have H2 := Lib.hid h2
      have G2 := Lib.hid (((Below.refl _ wr).alloc (Nat.le_refl _) (.cells #[.int .i64 x.1, .slice fo x.2.1.length fc, .slice to x.2.2.1.length tc, .int .i64 x.2.2.2] 39)).trans (hb.mono (by simp)))
      obtain ⟨fo1, fc1, rfl, -, -, -, -⟩ := h1.form
      obtain ⟨to1, tc1, rfl, -, -, -, -⟩ := h2.form
      have hlen : rs.length = k := by have := congrArg List.length HRS.out; simp at this; omega
      have HLEN := Lib.hid hlen
      have z2 := hbel.out.size
      have z3 := G2.out.size
      clear h1 h2 hb c0 c1 c2 c3 hlen
      go_wp2_with (at_builtin; refine wpList_append_cells (w := w2) (base := w.heap.size) (size := 4) (n := k) (xs := rs.flatMap cells4) (.tmp 15) (.tmp 18) _ rfl rfl i0 _ 64 Try.underlying29 HI.out HZ0.out HZ1.out HZ2.out rfl (by decide) [.int .i64 x.1, .slice fo1 x.2.1.length fc1, .slice to1 x.2.2.1.length tc1, .int .i64 x.2.2.2] rfl (by intro u hu; simp only [List.mem_cons, List.not_mem_nil, or_false] at hu; rcases hu with rfl | rfl | rfl | rfl <;> rfl) rfl rfl (own_below HRO.out G2.out) (by omega) (by omega) (by omega) ?_; intro v3 w3 ho3 hg3 hk3; have HO3 := Lib.hid ho3; have HG3 := Lib.hid hg3; have HK3 := Lib.hid hk3; clear ho3 hg3 hk3)
      have HNEW : Hid (OwnRgs w3 w.heap.size v3 (l.take (k + 1))) := Lib.hid (by
        rw [take_snoc hx.out, ← HRS.out]
        have h3 := HO3.out
        have ho := own_below HRO.out G2.out
        have hl' := HLEN.out
        refine OwnRgs.push (r := (x, .slice fo1 x.2.1.length fc1, .slice to1 x.2.2.1.length tc1)) (w := w2) (hl' ▸ ho) (fun r hr => (HRG.out r hr).chg (S := fun _ => False) (.of_ext G2.out) (fun _ _ _ h => h)) ⟨H1.out.mono (by simp; omega), H2.out.mono (by simp; omega), hI.out⟩ (hl' ▸ h3) ?_
        rw [hl']
        exact HG3.out)
      have HBEL : Hid (Below w.heap.size w w3) := Lib.hid (bel_own (hbel.out.trans (G2.out.mono hbel.out.size)) HG3.out (own_below HRO.out G2.out))
      go_wp2_with fail
      go_roundw
      case rel => exact ⟨k + 1, by omega, by go_num, HNEW.out, HBEL.out⟩
      case measure => simp [intOf]; omega
    · have hkl : k = l.length := by omega
      subst hkl
      go_wp2_with fail
      go_ret
      have h := hown.out
      rw [List.take_length] at h
      exact ⟨_, rfl, h, hbel.out⟩
end Rm
end Go.Proofs.Ytbeniogffhihlaa
namespace Go.Proofs.Ytbeniogffhihlaa
open Go.RowKit Go.Maps
namespace Rm
def prevTo (l : List RangeD) : Nat → List Int | 0 => [] | k + 1 => (l.getD k zeroR).2.2.1
def okAt (l : List RangeD) (k : Nat) (x : RangeD) : Bool := rightB x && decide (x.2.1 = prevTo l k) && (decide (x.2.2.1.length = 0) == decide (k + 1 = l.length))
def tableP (l : List RangeD) : Prop := 0 < l.length ∧ l.length ≤ 32 ∧ (∀ k x, l[k]? = some x → okAt l k x = true) ∧ (l.map (·.1)).Nodup
/-- what the map of ids says -/
def IdsOf (D : DataW Unit) (ks : List Int) : Prop := Tidy D ∧ (∀ k, has D (.int .i64 k) = decide (k ∈ ks)) ∧ size D ≤ ks.length ∧ (size D = ks.length ↔ ks.Nodup)
theorem IdsOf.nil : IdsOf (.map []) [] := ⟨tidy_empty, fun k => rfl, Nat.le_refl _, by simp [size_eq]⟩
theorem IdsOf.put {D : DataW Unit} {ks : List Int} (h : IdsOf D ks) (k : Int) (d : DataW Unit) : IdsOf (D.put (.int .i64 k) d) (ks ++ [k]) := by
  obtain ⟨h1, h2, h3, h4⟩ := h
  have hk : WideAt.IsKeyLit (.int .i64 k) := trivial
  have hs := size_put (k := .int .i64 k) h1 d
  rw [h2 k] at hs
  have hn : (ks ++ [k]).Nodup ↔ ks.Nodup ∧ k ∉ ks := by
    rw [List.nodup_append]
    constructor
    · intro ⟨a, _, c⟩
      exact ⟨a, fun hm => c k hm k (by simp) rfl⟩
    · intro ⟨a, b⟩
      exact ⟨a, by simp, fun x hx y hy e => b (by rw [List.mem_singleton] at hy; rw [← hy, ← e]; exact hx)⟩
  refine ⟨h1.put hk d, fun j => ?_, ?_, ?_⟩
  · by_cases hj : j = k
    · subst hj
      rw [has_put_same h1.isMap hk]
      simp
    · rw [has_put_other (by simpa using hj), h2 j]
      simp [hj]
  · rw [hs, List.length_append, List.length_singleton]
    split <;> omega
  · rw [hs, List.length_append, List.length_singleton, hn, ← h4]
    by_cases hm : k ∈ ks
    · simp only [hm, decide_true, if_true, not_true, and_false, iff_false]
      omega
    · simp only [hm, decide_false, Bool.false_eq_true, if_false, not_false_iff, and_true]
      omega
def IsTableP (l : List RangeD) (w : World) (e : Ending) (w' : World) : Prop := (tableP l → e = .returned (.bool true)) ∧ (¬ tableP l → e = .returned (.bool false)) ∧ Below w.heap.size w w'
theorem isTableP_no {l : List RangeD} {w w' : World} (h : ¬ tableP l) (hb : Below w.heap.size w w') : IsTableP l w (.returned (.bool false)) w' := ⟨fun h' => absurd h' h, fun _ => rfl, hb⟩
theorem below_grown {w w' : World} (h : Below w.heap.size w w') : w.grownBy w' none := ⟨h.os, h.tape, h.output, h.size, fun k hk _ => h.block k hk⟩
theorem rel_next {l : List RangeD} {w w3 : World} {k : Nat} {x : RangeD} {v : Value} {D : DataW Unit} {d : DataW Unit} (hk : k < l.length) (hx : l[k]? = some x) (hv : IsB w v x.2.2.1) (hall : ∀ j x, j < k → l[j]? = some x → okAt l j x = true) (hok : okAt l k x = true)
    (ho : w3.ownsMap Try.prog 3 (plainElem Try.prog 3) w.heap.size (k + 1) (D.put (.int .i64 x.1) d)) (hi : IdsOf D ((l.take k).map (·.1))) (hb : Below w.heap.size w w3) :
    ∃ (k' : Nat) (D' : DataW Unit), k' ≤ l.length ∧ (.int .i64 ((k : Int) + 1) : Value) = .int .i64 k' ∧ Hid (IsB w v (prevTo l k')) ∧ Hid (∀ j x, j < k' → l[j]? = some x → okAt l j x = true) ∧ Hid (w3.ownsMap Try.prog 3 (plainElem Try.prog 3) w.heap.size k' D') ∧ Hid (IdsOf D' ((l.take k').map (·.1))) ∧ Hid (Below w.heap.size w w3) := by
  refine ⟨k + 1, _, hk, by go_num, ?_, fun j y hj hy => ?_, ho, ?_, hb⟩
  · have e : prevTo l (k + 1) = x.2.2.1 := by
      show (l.getD k zeroR).2.2.1 = _
      rw [List.getD_eq_getElem?_getD, hx]; rfl
    show IsB w v (prevTo l (k + 1))
    rw [e]; exact hv
  · rcases Nat.lt_or_ge j k with h | h
    · exact hall j y h hy
    · have : j = k := by omega
      subst this
      rw [hx] at hy
      cases hy
      exact hok
  · rw [take_snoc hx, List.map_append, List.map_cons, List.map_nil]
    exact hi.put x.1 d
theorem zeroInt (w : World) : (zeroValue 3).run Try.prog w = .ok (.int .i64 0) w := by kernel_rfl
theorem lawInt : Keyed Try.prog 3 := int_keyed Try.underlying3
set_option maxRecDepth 100000 in
set_option maxHeartbeats 4000000 in
theorem isTable_any (v : Value) (l : List RangeD) (w : World) (h : IsRgs w v l) : Calls Try.prog 52 #[v] w (IsTableP l w) := by
  have hm := h.max
  obtain ⟨ao, cap, rfl, -, -, -⟩ := h.form
  have HB := Lib.hid h
  have hmm := @run_makeMap Try.prog
  clear h
  by_cases a1 : l.length = 0
  · have e1 : ((l.length : Int) == 0) = true := by rw [a1]; rfl
    have HN : Hid (¬ tableP l) := Lib.hid (fun h => by have := h.1; omega)
    clear a1
    go_enter Try.func52, Try.ntmps52
    go_wp2_with fail
    go_ret
    exact isTableP_no HN.out (by repeat' (first | (with_reducible exact Below.refl _ _) | (with_reducible assumption) | (with_reducible refine Below.drew ?_) | (with_reducible refine below_drewN ?_ _) | (with_reducible refine bel_alloc ?_ _) | (with_reducible refine Below.setCell ?_ ?_ _) | (with_reducible refine bel_call ?_ (by assumption)) | (simp <;> omega)))
  have e1 : ((l.length : Int) == 0) = false := beq_eq_false_iff_ne.2 (by omega)
  by_cases a2 : 32 < l.length
  · have e2 : decide ((32 : Int) < (l.length : Int)) = true := decide_eq_true (by omega)
    have HN : Hid (¬ tableP l) := Lib.hid (fun h => by have := h.2.1; omega)
    clear a2
    go_enter Try.func52, Try.ntmps52
    go_wp2_with fail
    go_ret
    exact isTableP_no HN.out (by repeat' (first | (with_reducible exact Below.refl _ _) | (with_reducible assumption) | (with_reducible refine Below.drew ?_) | (with_reducible refine below_drewN ?_ _) | (with_reducible refine bel_alloc ?_ _) | (with_reducible refine Below.setCell ?_ ?_ _) | (with_reducible refine bel_call ?_ (by assumption)) | (simp <;> omega)))
  have e2 : decide ((32 : Int) < (l.length : Int)) = false := decide_eq_false (by omega)
  have A1 := Lib.hid a1
  clear a1
  go_enter Try.func52, Try.ntmps52
  go_wp2_with fail
  have HM0 := Lib.hid (World.ownsMap_made w Try.prog 3 (plainElem (H := Unit) Try.prog 3))
  go_loopw [4, 19] (fun fv i wr => ∃ (k : Nat) (D : DataW Unit), k ≤ l.length ∧ i = .int .i64 k ∧ Hid (IsB w fv (prevTo l k)) ∧ Hid (∀ j x, j < k → l[j]? = some x → okAt l j x = true) ∧ Hid (wr.ownsMap Try.prog 3 (plainElem Try.prog 3) w.heap.size k D) ∧ Hid (IdsOf D ((l.take k).map (·.1))) ∧ Hid (Below w.heap.size w wr)) (fun _ i _ => l.length - (intOf i).toNat)
  case atStart => exact ⟨0, .map [], Nat.zero_le _, rfl, IsB.nil _, fun j x hj => absurd hj (Nat.not_lt_zero _), HM0.out, IdsOf.nil, (Below.refl _ _).alloc (Nat.le_refl _) _⟩
  case round =>
    obtain ⟨k, D, hk, rfl, hfrom, hall, hown, hids, hbel⟩ := hrel
    by_cases hlt : k < l.length
    · obtain ⟨b, o, x, fv, tv, hao, hbb, hx, c0', c1', c2', c3', hfv, htv, hI⟩ := IsRgs.at4 HB.out hlt
      subst hao
      have c0 := (hbel.out.cell (p := ⟨b, o + k * 4, none⟩) hbb).trans c0'
      have c1 := (hbel.out.cell (p := ⟨b, o + k * 4 + 1, none⟩) hbb).trans c1'
      have c2 := (hbel.out.cell (p := ⟨b, o + k * 4 + 2, none⟩) hbb).trans c2'
      have c3 := (hbel.out.cell (p := ⟨b, o + k * 4 + 3, none⟩) hbb).trans c3'
      obtain ⟨fo, fc, rfl, -, -, -⟩ := hfv.out.form
      obtain ⟨to, tc, rfl, -, -, -⟩ := htv.out.form
      obtain ⟨po, pc, rfl, -, -, -⟩ := hfrom.out.form
      have hl0 : (k : Int) < l.length := by omega
      have hl1 : 0 ≤ (k : Int) := by omega
      have hw1 := IntWalk.i64_in ((k : Int) + 1) (by omega)
      have hw2 := IntWalk.i64_in ((l.length : Int) - 1) (by omega)
      have zb := hown.out.lt
      have hwf : (Lit.int .i64 x.1).wf = true := by have := hI.out.1; unfold I64 at this; simp [Lit.wf, IntKind.min, IntKind.max, IntKind.signed, IntKind.bits]; omega
      have HKEY := Lib.hid (keyOf_int_mk (P := Try.prog) Try.underlying3 hwf)
      have HM1 := Lib.hid (hown.out.kept (w' := wr.alloc (.cells #[.int .i64 x.1, .slice fo x.2.1.length fc, .slice to x.2.2.1.length tc, .int .i64 x.2.2.2] 39)) (gb_alloc (gb_refl wr none) _) (by simp))
      have B0 := Lib.hid (hfv.out.below hbel.out); have B1 := Lib.hid (htv.out.below hbel.out)
      clear c0' c1' c2' c3' hwf
      go_wp2_with (first
        | (at_lookup; refine wpList_lookup_own_int _ rfl _ _ 114 rfl 3 3 .i64 lawInt Try.underlying114 Try.underlying3 (zeroInt _) w.heap.size k _ rfl HM1.out _ _ rfl HKEY.out ?_; intro cc hat hwc; clear hat hwc)
        | (at_mapUpdate; refine wpList_mapUpdate_own _ rfl _ _ _ 114 rfl 3 3 lawInt Try.underlying114 _ w.heap.size k _ rfl HM1.out (by unfold maxLen; omega) _ _ _ rfl rfl HKEY.out _ [] (plainElem_int Try.underlying3 (wrap64_wf _)) ?_; intro w2 hown2 hg2; have HO2 := Lib.hid hown2; have HG2 := Lib.hid hg2; have zw2 : wr.heap.size < w2.heap.size := (by have := hg2.size; simp at this; omega); have d0 : w2.cell? ⟨wr.heap.size, 0, none⟩ = some (.int .i64 x.1) := (gb_cell hg2 (b := wr.heap.size) (o := 0) (by simp) (by omega)).trans (by go_simp); have d1 : w2.cell? ⟨wr.heap.size, 1, none⟩ = some (.slice fo x.2.1.length fc) := (gb_cell hg2 (b := wr.heap.size) (o := 1) (by simp) (by omega)).trans (by go_simp); have d2 : w2.cell? ⟨wr.heap.size, 2, none⟩ = some (.slice to x.2.2.1.length tc) := (gb_cell hg2 (b := wr.heap.size) (o := 2) (by simp) (by omega)).trans (by go_simp); have d3 : w2.cell? ⟨wr.heap.size, 3, none⟩ = some (.int .i64 x.2.2.2) := (gb_cell hg2 (b := wr.heap.size) (o := 3) (by simp) (by omega)).trans (by go_simp); clear hown2 hg2))
      have G2 : Hid (Below w.heap.size w w2) := Lib.hid (bel_grown (bel_alloc hbel.out _) HG2.out (Nat.le_refl _))
      have HNO : Hid (okAt l k x = false → ¬ tableP l) := Lib.hid (fun h h' => by have := h'.2.2.1 k x hx.out; rw [h] at this; exact absurd this (by decide))
      have hok : okAt l k x = (rightB x && decide (x.2.1 = prevTo l k) && (decide (x.2.2.1.length = 0) == decide (k + 1 = l.length))) := rfl
      have HEQ := fun w' (hb : Below w2.heap.size w2 w') => bytesEqual_any _ _ x.2.1 (prevTo l k) w' (hfv.out.below (bel_call G2.out hb)) (hfrom.out.below (bel_call G2.out hb))
      have HE := Lib.hid HEQ
      have HR : Hid (Calls Try.prog _ _ w2 (Ret (.bool (rightB x)) w2)) := Lib.hid (right_any _ _ x.1 x.2.2.2 x.2.1 x.2.2.1 w2 (hfv.out.below G2.out) (htv.out.below G2.out))
      have lm1 : (k : Int) + 1 ≤ l.length := by omega
      clear HEQ hw1
      cases hR : rightB x
      · rw [hR] at HR hok
        have HF : Hid (¬ tableP l) := Lib.hid (HNO.out (by rw [hok]; rfl))
        clear hok hR
        refine HR.out.mono ?_
        rintro e w3 ⟨rfl, hb⟩
        have G3 := Lib.hid (bel_call G2.out hb)
        clear hb
        go_wp2_with fail
        go_ret
        exact isTableP_no HF.out G3.out
      · rw [hR] at HR hok
        clear hR
        refine HR.out.mono ?_
        rintro e w3 ⟨rfl, hb⟩
        have G3 := Lib.hid (bel_call G2.out hb)
        have HE3 := Lib.hid (HE.out w3 hb)
        have zw3 : wr.heap.size < w3.heap.size := by have := hb.size; omega
        replace d0 := (hb.cell (p := ⟨wr.heap.size, 0, none⟩) zw2).trans d0
        replace d1 := (hb.cell (p := ⟨wr.heap.size, 1, none⟩) zw2).trans d1
        replace d2 := (hb.cell (p := ⟨wr.heap.size, 2, none⟩) zw2).trans d2
        have HO3 := Lib.hid (HO2.out.kept (row := none) (below_grown hb) (by simp))
        clear hb d3
        have hw1 := IntWalk.i64_in ((k : Int) + 1) (by omega)
        by_cases hE : x.2.1 = prevTo l k
        · rw [decide_eq_true hE] at HE3 hok
          clear hE
          by_cases h1 : x.2.2.1.length = 0
          · have f1 : ((x.2.2.1.length : Int) == 0) = true := by rw [h1]; rfl
            by_cases h2 : k + 1 = l.length
            · have f2 : ((k : Int) == (l.length : Int) - 1) = true := beq_iff_eq.2 (by omega)
              have HOK : Hid (okAt l k x = true) := Lib.hid (by rw [hok, decide_eq_true h1, decide_eq_true h2]; rfl)
              clear hok h1 h2
              go_wp2_with fail
              refine HE3.out.mono ?_
              rintro e w4 ⟨rfl, rfl⟩
              go_wp2_with fail
              go_roundw
              case rel => exact rel_next hlt hx.out htv.out hall.out HOK.out HO3.out hids.out G3.out
              case measure => simp [intOf]; omega
            · have f2 : ((k : Int) == (l.length : Int) - 1) = false := beq_eq_false_iff_ne.2 (by omega)
              have HF : Hid (¬ tableP l) := Lib.hid (HNO.out (by rw [hok, decide_eq_true h1, decide_eq_false h2]; rfl))
              clear hok h1 h2
              go_wp2_with fail
              refine HE3.out.mono ?_
              rintro e w4 ⟨rfl, rfl⟩
              go_wp2_with fail
              go_ret
              exact isTableP_no HF.out G3.out
          · have f1 : ((x.2.2.1.length : Int) == 0) = false := beq_eq_false_iff_ne.2 (by omega)
            by_cases h2 : k + 1 = l.length
            · have f2 : ((k : Int) == (l.length : Int) - 1) = true := beq_iff_eq.2 (by omega)
              have HF : Hid (¬ tableP l) := Lib.hid (HNO.out (by rw [hok, decide_eq_false h1, decide_eq_true h2]; rfl))
              clear hok h1 h2
              go_wp2_with fail
              refine HE3.out.mono ?_
              rintro e w4 ⟨rfl, rfl⟩
              go_wp2_with fail
              go_ret
              exact isTableP_no HF.out G3.out
            · have f2 : ((k : Int) == (l.length : Int) - 1) = false := beq_eq_false_iff_ne.2 (by omega)
              have HOK : Hid (okAt l k x = true) := Lib.hid (by rw [hok, decide_eq_false h1, decide_eq_false h2]; rfl)
              clear hok h1 h2
              go_wp2_with fail
              refine HE3.out.mono ?_
              rintro e w4 ⟨rfl, rfl⟩
              go_wp2_with fail
              go_roundw
              case rel => exact rel_next hlt hx.out htv.out hall.out HOK.out HO3.out hids.out G3.out
              case measure => simp [intOf]; omega
        · rw [decide_eq_false hE] at HE3 hok
          have HF : Hid (¬ tableP l) := Lib.hid (HNO.out (by rw [hok]; rfl))
          clear hok hE
          go_wp2_with fail
          refine HE3.out.mono ?_
          rintro e w4 ⟨rfl, rfl⟩
          go_wp2_with fail
          go_ret
          exact isTableP_no HF.out G3.out
    · have hkl : k = l.length := by omega
      subst hkl
      have HL : Hid (tableP l ↔ size D = l.length) := Lib.hid (by
        have h4 := hids.out.2.2.2
        rw [List.take_length, List.length_map] at h4
        constructor
        · intro h; exact h4.2 h.2.2.2
        · intro h; exact ⟨by have := A1.out; omega, by omega, fun j x hx => hall.out j x (List.getElem?_eq_some_iff.1 hx).1 hx, h4.1 h⟩)
      have HOW := Lib.hid hown.out
      by_cases hs : size D = l.length
      · have f1 : ((size D : Int) == (l.length : Int)) = true := beq_iff_eq.2 (by omega)
        have HT := Lib.hid (HL.out.2 hs)
        clear hs
        go_wp2_with (at_len; refine wpList_len_own (w := wr) rfl (.tmp 58) 114 rfl 3 3 Try.underlying114 _ w.heap.size _ D rfl HOW.out ?_)
        go_ret
        exact ⟨fun _ => rfl, fun h => absurd HT.out h, hbel.out⟩
      · have f1 : ((size D : Int) == (l.length : Int)) = false := beq_eq_false_iff_ne.2 (by omega)
        have HT := Lib.hid (fun h => hs (HL.out.1 h))
        clear hs
        go_wp2_with (at_len; refine wpList_len_own (w := wr) rfl (.tmp 58) 114 rfl 3 3 Try.underlying114 _ w.heap.size _ D rfl HOW.out ?_)
        go_ret
        exact isTableP_no HT.out hbel.out
end Rm
end Go.Proofs.Ytbeniogffhihlaa
namespace Go.Proofs.Ytbeniogffhihlaa
open Go.RowKit
namespace Rm
set_option maxRecDepth 100000 in
set_option maxHeartbeats 1000000 in
theorem tList_any (tb : Nat) (v : Value) (l : List RangeD) (w : World) (hc : w.cell? ⟨tb, 0, none⟩ = some v) (h : IsRgs w v l) (hl : l.length ≤ 1000) (hs : ∀ x ∈ l, x.2.1.length ≤ 140737488355328 ∧ x.2.2.1.length ≤ 140737488355328) :
    Calls Try.prog 15 #[.pointer (some ⟨tb, 0, none⟩)] w (OwnedP l w) := by
  obtain ⟨ao, cap, rfl, -, -, -⟩ := h.form
  have HC := Lib.hid (owned_any _ l w h hl hs)
  clear h hs
  go_enter Try.func15, Try.ntmps15
  go_wp2_with fail
  refine HC.out.mono ?_
  unfold OwnedP
  rintro e w1 ⟨v1, rfl, h1, h2⟩
  have H1 := Lib.hid h1
  have H2 := Lib.hid h2
  obtain ⟨a1, c1, rfl, -, -, -⟩ := h1.isRgs.form
  clear h1 h2
  go_wp2_with fail
  go_ret
  exact ⟨_, rfl, H1.out, H2.out⟩
def LoadP (l : List RangeD) (w : World) (e : Ending) (w' : World) : Prop :=
  (¬ tableP l → e = .returned (.tuple #[.pointer none, .int .i64 150]) ∧ Below w.heap.size w w') ∧
  (tableP l → ∃ tb v, e = .returned (.tuple #[.pointer (some ⟨tb, 0, none⟩), .int .i64 0]) ∧ w.heap.size ≤ tb ∧ w'.heap[tb]? = some (.cells #[v] 80 (0, 0)) ∧ OwnRgs w' w.heap.size v l ∧ Below w.heap.size w w')
set_option maxRecDepth 100000 in
set_option maxHeartbeats 1000000 in
theorem load_any (v : Value) (l : List RangeD) (w : World) (h : IsRgs w v l) (hs : ∀ x ∈ l, x.2.1.length ≤ 140737488355328 ∧ x.2.2.1.length ≤ 140737488355328) :
    Calls Try.prog 25 #[v] w (LoadP l w) := by
  have HI := Lib.hid (isTable_any v l w h)
  have HB := Lib.hid h
  have HS := Lib.hid hs
  unfold IsTableP at HI
  obtain ⟨ao, cap, rfl, -, -, -⟩ := h.form
  clear h hs
  by_cases ht : tableP l
  · have HT := Lib.hid ht
    have hl : l.length ≤ 1000 := by have := ht.2.1; omega
    clear ht
    go_enter Try.func25, Try.ntmps25
    go_wp2_with fail
    refine HI.out.mono ?_
    rintro e w1 ⟨h1, -, hb⟩
    obtain rfl := h1 HT.out
    have G1 := Lib.hid hb
    have HO := Lib.hid (owned_any _ l w1 (HB.out.below rgR_stays hb) hl HS.out)
    unfold OwnedP at HO
    clear h1 hb
    go_wp2_with fail
    refine HO.out.mono ?_
    rintro e w2 ⟨v1, rfl, h1, h2⟩
    have H1 := Lib.hid h1
    have H2 := Lib.hid h2
    obtain ⟨a1, c1, rfl, -, -, -⟩ := h1.isRgs.form
    clear h1 h2
    have z1 := G1.out.size
    have z2 := H2.out.size
    go_wp2_with fail
    go_ret2
    refine ⟨fun h => absurd HT.out h, fun _ => ⟨_, _, rfl, by omega, heap_alloc_new w2 _, ?_, bel_alloc (bel_call G1.out H2.out) _⟩⟩
    obtain ⟨rs, q1, q2, q3⟩ := H1.out.below ((Below.refl _ w2).alloc (Nat.le_refl _) _)
    exact ⟨rs, q1, own_mono q2 z1, fun r hr => ⟨(q3 r hr).1.mono z1, (q3 r hr).2.1.mono z1, (q3 r hr).2.2⟩⟩
  · have HT := Lib.hid ht
    clear ht
    go_enter Try.func25, Try.ntmps25
    go_wp2_with fail
    refine HI.out.mono ?_
    rintro e w1 ⟨-, h1, hb⟩
    obtain rfl := h1 HT.out
    have G1 := Lib.hid hb
    clear h1 hb
    go_wp2_with fail
    go_ret2
    exact ⟨fun _ => ⟨rfl, G1.out⟩, fun h => absurd h HT.out⟩
end Rm
end Go.Proofs.Ytbeniogffhihlaa
