/- rangemeta: ranges in memory of their own; List, Load. -/
import Derived.Test.YtbeniogffhihlaaRmAwake
set_option linter.unusedVariables false
set_option linter.unusedSimpArgs false
namespace Go.Proofs.Ytbeniogffhihlaa
open Go.RowKit
namespace Rm
theorem GoodV.grown {w w1 : World} {base : Nat} {r : RV} {v : Value} {n : Nat} {xs : List Value} (h : GoodV w base r) (ho : w.ownsRow base 39 4 v n xs) (k : w.grownBy w1 v.ownBlock) : GoodV w1 base r :=
  h.chg (Chg.of_grown k (S := fun b => v.ownBlock = some b) (fun _ _ h => h)) (fun b cur hb hv => by
    obtain ⟨-, -, c, hc⟩ := own_typed ho b hv
    exact absurd (types_apart hc hb) (by decide))
theorem OwnRgs.push {w w1 : World} {base : Nat} {v v' : Value} {rs : List RV} {r : RV} (ho : w.ownsRow base 39 4 v rs.length (rs.flatMap cells4)) (hg : ∀ r ∈ rs, GoodV w base r) (hr : GoodV w base r)
    (h1 : w1.ownsRow base 39 4 v' (rs.length + 1) (rs.flatMap cells4 ++ cells4 r)) (k : w.grownBy w1 v.ownBlock) : OwnRgs w1 base v' (rs.map (·.1) ++ [r.1]) := by
  refine ⟨rs ++ [r], by simp, ?_, fun s hs => ?_⟩
  · rw [List.length_append, List.length_map, List.flatMap_append, List.flatMap_cons, List.flatMap_nil, List.append_nil]
    exact h1
  · rcases List.mem_append.1 hs with hs | hs
    · exact (hg s hs).grown ho k
    · rw [List.mem_singleton] at hs
      subst hs
      exact hr.grown ho k
def OwnedP (l : List RangeD) (w : World) (e : Ending) (w' : World) : Prop := ∃ v, e = .returned v ∧ OwnRgs w' w.heap.size v l ∧ Below w.heap.size w w'
set_option maxRecDepth 100000 in
set_option maxHeartbeats 4000000 in
theorem owned_any (v : Value) (l : List RangeD) (w : World) (h : IsRgs w v l) (hl : l.length ≤ 1000) (hs : ∀ x ∈ l, x.2.1.length ≤ 140737488355328 ∧ x.2.2.1.length ≤ 140737488355328) :
    Calls Try.prog 48 #[v] w (OwnedP l w) := by
  obtain ⟨i0, hi0, hz0, hz1, hz2⟩ := info_parts infoRg
  have HI := Lib.hid hi0; have HZ0 := Lib.hid hz0; have HZ1 := Lib.hid hz1; have HZ2 := Lib.hid hz2
  clear hi0 hz0 hz1 hz2
  obtain ⟨ao, cap, rfl, -, -, -⟩ := h.form
  have HB := Lib.hid h
  have HS := Lib.hid hs
  clear h hs
  go_enter Try.func48, Try.ntmps48
  go_wp2_with (at_make; refine wpList_make_own w rfl _ _ _ rfl w.heap.size 39 i0 _ 4 Try.underlying29 HI.out HZ0.out HZ1.out .i64 .i64 _ l.length rfl rfl rfl (by rw [HZ2.out]; omega) (by unfold maxLen; omega) (Nat.le_refl _) ?_; intro w1 hown hg; have HO1 := Lib.hid hown; have HG1 := Lib.hid hg; clear hown hg)
  go_loopw [3, 11] (fun v i wr => ∃ k : Nat, k ≤ l.length ∧ i = .int .i64 k ∧ Hid (OwnRgs wr w.heap.size v (l.take k)) ∧ Hid (Below w.heap.size w wr)) (fun _ i _ => l.length - (intOf i).toNat)
  case atStart => exact ⟨0, Nat.zero_le _, rfl, ⟨[], rfl, HO1.out, fun _ h => by cases h⟩, below_own HG1.out (Nat.le_refl _) (fun k hk => by cases hk)⟩
  case round =>
    obtain ⟨k, hk, rfl, hown, hbel⟩ := hrel
    by_cases hlt : k < l.length
    · obtain ⟨b, o, x, fv, tv, hao, hbb, hx, c0', c1', c2', c3', hfv, htv, hI⟩ := IsRgs.at4 HB.out hlt
      subst hao
      have c0 := (hbel.out.cell (p := ⟨b, o + k * 4, none⟩) hbb).trans c0'
      have c1 := (hbel.out.cell (p := ⟨b, o + k * 4 + 1, none⟩) hbb).trans c1'
      have c2 := (hbel.out.cell (p := ⟨b, o + k * 4 + 2, none⟩) hbb).trans c2'
      have c3 := (hbel.out.cell (p := ⟨b, o + k * 4 + 3, none⟩) hbb).trans c3'
      obtain ⟨s1, s2⟩ := HS.out x (List.mem_of_getElem? hx.out)
      obtain ⟨fo, fc, rfl, -, -, -⟩ := hfv.out.form
      obtain ⟨to, tc, rfl, -, -, -⟩ := htv.out.form
      have HC := Lib.hid (own_any _ _ x.1 x.2.2.2 x.2.1 x.2.2.1 (wr.alloc (.cells #[.int .i64 x.1, .slice fo x.2.1.length fc, .slice to x.2.2.1.length tc, .int .i64 x.2.2.2] 39)) ((hfv.out.below hbel.out).alloc _) ((htv.out.below hbel.out).alloc _) s1 s2)
      unfold OwnP at HC
      have hl0 : (k : Int) < l.length := by omega
      have hl1 : 0 ≤ (k : Int) := by omega
      have hw1 := IntWalk.i64_in ((k : Int) + 1) (by omega)
      clear c0' c1' c2' c3'
      obtain ⟨rs, hrs, hro, hrg⟩ := hown.out
      have htk : (l.take k).length = k := by rw [List.length_take]; omega
      rw [htk] at hro
      clear htk
      obtain ⟨vo, vc, rfl, -, -, -, -⟩ := own_form hro
      have HRS := Lib.hid hrs
      have HRO := Lib.hid hro
      have HRG := Lib.hid hrg
      clear hrs hro hrg
      go_wp2_with fail
      refine HC.out.mono ?_
      rintro e w2 ⟨v1, v2, rfl, h1, h2, hb⟩
      have H1 := Lib.hid h1
      have H2 := Lib.hid h2
      have G2 := Lib.hid (((Below.refl _ wr).alloc (Nat.le_refl _) (.cells #[.int .i64 x.1, .slice fo x.2.1.length fc, .slice to x.2.2.1.length tc, .int .i64 x.2.2.2] 39)).trans (hb.mono (by simp)))
      obtain ⟨fo1, fc1, rfl, -, -, -, -⟩ := h1.form
      obtain ⟨to1, tc1, rfl, -, -, -, -⟩ := h2.form
      have hlen : rs.length = k := by have := congrArg List.length HRS.out; simp at this; omega
      have HLEN := Lib.hid hlen
      have z2 := hbel.out.size
      have z3 := G2.out.size
      clear h1 h2 hb c0 c1 c2 c3 hlen
      go_wp2_with (at_builtin; refine wpList_append_cells (w := w2) (base := w.heap.size) (size := 4) (n := k) (xs := rs.flatMap cells4) (.tmp 15) (.tmp 18) _ rfl rfl i0 _ 64 Try.underlying29 HI.out HZ0.out HZ1.out HZ2.out rfl (by decide) [.int .i64 x.1, .slice fo1 x.2.1.length fc1, .slice to1 x.2.2.1.length tc1, .int .i64 x.2.2.2] rfl (by intro u hu; simp only [List.mem_cons, List.not_mem_nil, or_false] at hu; rcases hu with rfl | rfl | rfl | rfl <;> rfl) rfl rfl (own_below HRO.out G2.out) (by omega) (by omega) (by omega) ?_; intro v3 w3 ho3 hg3 hk3; have HO3 := Lib.hid ho3; have HG3 := Lib.hid hg3; have HK3 := Lib.hid hk3; clear ho3 hg3 hk3)
      have HNEW : Hid (OwnRgs w3 w.heap.size v3 (l.take (k + 1))) := Lib.hid (by
        rw [take_snoc hx.out, ← HRS.out]
        have h3 := HO3.out
        have ho := own_below HRO.out G2.out
        have hl' := HLEN.out
        refine OwnRgs.push (r := (x, .slice fo1 x.2.1.length fc1, .slice to1 x.2.2.1.length tc1)) (w := w2) (hl' ▸ ho) (fun r hr => (HRG.out r hr).chg (S := fun _ => False) (.of_ext G2.out) (fun _ _ _ h => h)) ⟨H1.out.mono (by simp; omega), H2.out.mono (by simp; omega), hI.out⟩ (hl' ▸ h3) ?_
        rw [hl']
        exact HG3.out)
      have HBEL : Hid (Below w.heap.size w w3) := Lib.hid (bel_own (hbel.out.trans (G2.out.mono hbel.out.size)) HG3.out (own_below HRO.out G2.out))
      go_wp2_with fail
      go_roundw
      case rel => exact ⟨k + 1, by omega, by go_num, HNEW.out, HBEL.out⟩
      case measure => simp [intOf]; omega
    · have hkl : k = l.length := by omega
      subst hkl
      go_wp2_with fail
      go_ret
      have h := hown.out
      rw [List.take_length] at h
      exact ⟨_, rfl, h, hbel.out⟩
end Rm
end Go.Proofs.Ytbeniogffhihlaa
