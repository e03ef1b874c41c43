/- rangemeta: slices.IndexFunc over ranges, with any predicate. -/
import Derived.Test.YtbeniogffhihlaaRm
set_option linter.unusedVariables false
set_option linter.unusedSimpArgs false
namespace Go.Proofs.Ytbeniogffhihlaa
open Go.RowKit
namespace Rm
/-- the first place at which p holds, or -1 -/
def idxF (p : RangeD → Bool) (l : List RangeD) : Int := match l.findIdx? p with | none => -1 | some i => (i : Int)
theorem idxF_none {p : RangeD → Bool} {l : List RangeD} (h : ∀ x ∈ l, p x = false) : idxF p l = -1 := by
  unfold idxF
  rw [List.findIdx?_eq_none_iff.2 (fun x hx => by simpa using h x hx)]
theorem idxF_some {p : RangeD → Bool} {l : List RangeD} {k : Nat} {x : RangeD} (h : ∀ y ∈ l.take k, p y = false) (hx : l[k]? = some x) (hp : p x = true) : idxF p l = k := by
  unfold idxF
  obtain ⟨hk, rfl⟩ := List.getElem?_eq_some_iff.1 hx
  have : l.findIdx? p = some k := by
    rw [List.findIdx?_eq_some_iff_getElem]
    refine ⟨hk, hp, fun j hj => ?_⟩
    have := h _ (List.mem_take_iff_getElem.2 ⟨j, by omega, rfl⟩)
    simpa using this
  rw [this]
set_option maxRecDepth 100000 in
set_option maxHeartbeats 2000000 in
theorem indexFunc_any (g : Nat) (cb : Array Value) (p : RangeD → Bool) (v : Value) (l : List RangeD) (w : World) (h : IsRgs w v l)
    (eg : ∀ (args : Array Value) (w : World), Sem.run Try.prog (callFunc g args) w = .ok (.enter g args) w)
    (hp : ∀ w' (x : RangeD) fv tv, Below w.heap.size w w' → IsB w' fv x.2.1 → IsB w' tv x.2.2.1 → Calls Try.prog g (#[.agg #[.int .i64 x.1, fv, tv, .int .i64 x.2.2.2]] ++ cb) w' (Ret (.bool (p x)) w')) :
    Calls Try.prog 42 #[v, .func (.func g) #[] cb] w (Ret (.int .i64 (idxF p l)) w) := by
  have hm := h.max
  obtain ⟨ao, cap, rfl, hnc, hcap, -⟩ := h.form
  have HB := Lib.hid h
  have HP := Lib.hid hp
  clear h hp
  go_enter Try.func42, Try.ntmps42
  go_wp2_with fail
  go_loopw [8] (fun i wr => ∃ k : Nat, k ≤ l.length ∧ i = .int .i64 k ∧ Hid (∀ y ∈ l.take k, p y = false) ∧ Hid (Below w.heap.size w wr)) (fun i _ => l.length - (intOf i).toNat)
  case atStart => exact ⟨0, Nat.zero_le _, rfl, fun y hy => by simp at hy, Below.refl _ _⟩
  case round =>
    obtain ⟨k, hk, rfl, hall, hbel⟩ := hrel
    by_cases hlt : k < l.length
    · obtain ⟨b, o, x, fv, tv, hao, hbb, hx, c0', c1', c2', c3', hfv, htv, -⟩ := IsRgs.at4 HB.out hlt
      subst hao
      have c0 := (hbel.out.cell (p := ⟨b, o + k * 4, none⟩) hbb).trans c0'
      have c1 := (hbel.out.cell (p := ⟨b, o + k * 4 + 1, none⟩) hbb).trans c1'
      have c2 := (hbel.out.cell (p := ⟨b, o + k * 4 + 2, none⟩) hbb).trans c2'
      have c3 := (hbel.out.cell (p := ⟨b, o + k * 4 + 3, none⟩) hbb).trans c3'
      obtain ⟨fo, fc, rfl, -, -, -⟩ := hfv.out.form
      obtain ⟨to, tc, rfl, -, -, -⟩ := htv.out.form
      have HC := Lib.hid (HP.out wr x _ _ hbel.out (hfv.out.below hbel.out) (htv.out.below hbel.out))
      have hl0 : (k : Int) < l.length := by omega
      have hl1 : 0 ≤ (k : Int) := by omega
      have hw1 := IntWalk.i64_in ((k : Int) + 1) (by omega)
      clear c0' c1' c2' c3'
      cases hpx : p x
      · rw [hpx] at HC
        go_wp2_with fail
        refine HC.out.mono ?_
        rintro e w1 ⟨rfl, hb⟩
        have G1 := Lib.hid (bel_call hbel.out hb)
        have HALL : Hid (∀ y ∈ l.take (k + 1), p y = false) := Lib.hid (by
          rw [take_snoc hx.out]
          intro y hy
          rcases List.mem_append.1 hy with h | h
          · exact hall.out y h
          · rw [List.mem_singleton.1 h]; exact hpx)
        clear hb c0 c1 c2 c3
        go_wp2_with fail
        go_roundw
        case rel => exact ⟨k + 1, by omega, by go_num, HALL.out, G1.out⟩
        case measure => simp [intOf]; omega
      · rw [hpx] at HC
        have HI := Lib.hid (idxF_some hall.out hx.out hpx)
        go_wp2_with fail
        refine HC.out.mono ?_
        rintro e w1 ⟨rfl, hb⟩
        have G1 := Lib.hid (bel_call hbel.out hb)
        clear hb c0 c1 c2 c3
        go_wp2_with fail
        go_ret
        exact ⟨by rw [HI.out]; rfl, G1.out⟩
    · have hkl : k = l.length := by omega
      subst hkl
      have HI := Lib.hid (idxF_none (p := p) (l := l) (fun x hx => hall.out x (by rw [List.take_length]; exact hx)))
      go_wp2_with fail
      go_ret
      exact ⟨by rw [HI.out]; rfl, hbel.out⟩
end Rm
end Go.Proofs.Ytbeniogffhihlaa
