/- rangemeta: find. -/
import Derived.Test.YtbeniogffhihlaaRmFind
import Derived.Shelf.Abstract
set_option linter.unusedVariables false
set_option linter.unusedSimpArgs false
namespace Go.Proofs.Ytbeniogffhihlaa
open Go.RowKit
namespace Rm
def findF (l : List RangeD) (k : List Int) : Option RangeD := l.find? fun x => holdsB (x.2.1, x.2.2.1) k
def zeroR : RangeD := (0, [], [], 0)
def FindP (r : RangeD) (b : Bool) (w : World) (e : Ending) (w' : World) : Prop := ∃ fv tv, e = .returned (.tuple #[.agg #[.int .i64 r.1, fv, tv, .int .i64 r.2.2.2], .bool b]) ∧ OwnS w' w.heap.size 5 fv r.2.1 ∧ OwnS w' w.heap.size 5 tv r.2.2.1 ∧ Below w.heap.size w w'
theorem idx_find {p : RangeD → Bool} {l : List RangeD} : (idxF p l = -1 ∧ l.find? p = none) ∨ ∃ k x, idxF p l = ((k : Nat) : Int) ∧ k < l.length ∧ l[k]? = some x ∧ l.find? p = some x := by
  unfold idxF
  cases h : l.findIdx? p with
  | none => exact .inl ⟨rfl, by rw [List.find?_eq_none]; intro x hx; have := List.findIdx?_eq_none_iff.1 h x hx; simpa using this⟩
  | some k =>
    obtain ⟨hk, hp, hb⟩ := List.findIdx?_eq_some_iff_getElem.1 h
    refine .inr ⟨k, l[k], rfl, hk, List.getElem?_eq_getElem hk, ?_⟩
    rw [List.find?_eq_some_iff_getElem]
    exact ⟨hp, k, hk, rfl, fun j hj => by simpa using hb j hj⟩
set_option maxRecDepth 100000 in
set_option maxHeartbeats 4000000 in
theorem find_any (v kv : Value) (l : List RangeD) (k : List Int) (w : World) (h : IsRgs w v l) (hk : IsB w kv k) (hs : ∀ x ∈ l, x.2.1.length ≤ 140737488355328 ∧ x.2.2.1.length ≤ 140737488355328) :
    Calls Try.prog 49 #[v, kv] w (FindP ((findF l k).getD zeroR) (findF l k).isSome w) := by
  have hm := h.max
  obtain ⟨ao, cap, rfl, hnc, hcap, -⟩ := h.form
  obtain ⟨ko, kc, rfl, -, -, -⟩ := hk.form
  have hmf : ∀ (fn : Fn) (first cap : Array Value) (w : World), (Instr.makeFunc fn first cap).run Try.prog w = .ok (.func fn first cap) w := fun _ _ _ _ => rfl
  have HB := Lib.hid h
  have HK := Lib.hid hk
  have HS := Lib.hid hs
  have W2 : World := w
  have HB2 := (HB.out.alloc rgR_stays (.cells #[.slice ko k.length kc] 23)).alloc rgR_stays (.cells #[.int .i64 0, .slice none 0 0, .slice none 0 0, .int .i64 0] 39)
  have HK2 := Lib.hid ((HK.out.alloc (.cells #[.slice ko k.length kc] 23)).alloc (.cells #[.int .i64 0, .slice none 0 0, .slice none 0 0, .int .i64 0] 39))
  have hcell : ((w.alloc (.cells #[.slice ko k.length kc] 23)).alloc (.cells #[.int .i64 0, .slice none 0 0, .slice none 0 0, .int .i64 0] 39)).cell? ⟨w.heap.size, 0, none⟩ = some (.slice ko k.length kc) := by go_simp
  have HX := Lib.hid (indexFunc_any 78 #[.pointer (some ⟨w.heap.size, 0, none⟩)] (fun x => holdsB (x.2.1, x.2.2.1) k) _ l _ HB2 (enters_of Try.func78 (by kernel_rfl) rfl)
    (fun w' x fv tv hb hf ht => findC_any fv tv _ x.1 x.2.2.2 x.2.1 x.2.2.1 k w.heap.size w' hf ht (HK2.out.below hb) ((hb.cell (p := ⟨w.heap.size, 0, none⟩) (by simp <;> omega)).trans hcell) (by have := hb.size; simp at this; omega)))
  have hcase := idx_find (p := fun x => holdsB (x.2.1, x.2.2.1) k) (l := l)
  generalize idxF (fun x => holdsB (x.2.1, x.2.2.1) k) l = ix at *
  have hF : findF l k = l.find? fun x => holdsB (x.2.1, x.2.2.1) k := rfl
  clear h hk hs HB2 hcell W2
  rcases hcase with ⟨rfl, hn⟩ | ⟨n, x, rfl, hnl, hnx, hn⟩
  · rw [hF, hn]
    clear hF hn
    go_enter Try.func49, Try.ntmps49
    go_wp2_with fail
    refine HX.out.mono ?_
    rintro e w1 ⟨rfl, hb⟩
    replace k0 : w1.cell? ⟨w.heap.size + 1, 0, none⟩ = some (.int .i64 0) := (hb.cell (p := ⟨w.heap.size + 1, 0, none⟩) (by simp <;> omega)).trans (by go_simp); replace k0f : w1.frozen? ⟨w.heap.size + 1, 0, none⟩ = false := (hb.frozen (p := ⟨w.heap.size + 1, 0, none⟩) (by simp <;> omega)).trans (by go_simp); replace k1 : w1.cell? ⟨w.heap.size + 1, 1, none⟩ = some (.slice none 0 0) := (hb.cell (p := ⟨w.heap.size + 1, 1, none⟩) (by simp <;> omega)).trans (by go_simp); replace k1f : w1.frozen? ⟨w.heap.size + 1, 1, none⟩ = false := (hb.frozen (p := ⟨w.heap.size + 1, 1, none⟩) (by simp <;> omega)).trans (by go_simp); replace k2 : w1.cell? ⟨w.heap.size + 1, 2, none⟩ = some (.slice none 0 0) := (hb.cell (p := ⟨w.heap.size + 1, 2, none⟩) (by simp <;> omega)).trans (by go_simp); replace k2f : w1.frozen? ⟨w.heap.size + 1, 2, none⟩ = false := (hb.frozen (p := ⟨w.heap.size + 1, 2, none⟩) (by simp <;> omega)).trans (by go_simp); replace k3 : w1.cell? ⟨w.heap.size + 1, 3, none⟩ = some (.int .i64 0) := (hb.cell (p := ⟨w.heap.size + 1, 3, none⟩) (by simp <;> omega)).trans (by go_simp); replace k3f : w1.frozen? ⟨w.heap.size + 1, 3, none⟩ = false := (hb.frozen (p := ⟨w.heap.size + 1, 3, none⟩) (by simp <;> omega)).trans (by go_simp)
    have GW : Hid (Below w.heap.size w w1) := Lib.hid (bel_call (by repeat' (first | (with_reducible exact Below.refl _ _) | (with_reducible assumption) | (with_reducible refine Below.drew ?_) | (with_reducible refine below_drewN ?_ _) | (with_reducible refine bel_alloc ?_ _) | (with_reducible refine Below.setCell ?_ ?_ _) | (with_reducible refine bel_call ?_ (by assumption)) | (simp <;> omega))) hb)
    clear hb
    go_wp2_with fail
    refine bodyPost_ret (v := .tuple #[.agg #[.int .i64 0, .slice none 0 0, .slice none 0 0, .int .i64 0], .bool false]) (by simp [results, Try.results49, go_sem]; go_simp) rfl ⟨_, _, rfl, ⟨Rng.nil, .inl ⟨rfl, rfl⟩⟩, ⟨Rng.nil, .inl ⟨rfl, rfl⟩⟩, ?_⟩
    exact (((GW.out.setCell (p := ⟨w.heap.size + 1, 0, none⟩) (by simp only; omega) _).setCell (p := ⟨w.heap.size + 1, 1, none⟩) (by simp only; omega) _).setCell (p := ⟨w.heap.size + 1, 2, none⟩) (by simp only; omega) _).setCell (p := ⟨w.heap.size + 1, 3, none⟩) (by simp only; omega) _
  · rw [hF, hn]
    clear hF hn
    obtain ⟨b, o, x', fv, tv, rfl, hbb, hx', c0, c1, c2, c3, hfv, htv, -⟩ := IsRgs.at4 HB.out hnl
    have hxx : x' = x := by have := hx'.out; rw [hnx] at this; exact (Option.some.inj this).symm
    subst hxx
    obtain ⟨s1, s2⟩ := HS.out x' (List.mem_of_getElem? hnx)
    obtain ⟨fo, fc, rfl, -, -, -⟩ := hfv.out.form
    obtain ⟨to, tc, rfl, -, -, -⟩ := htv.out.form
    have hn0 : (n : Int) < l.length := by omega
    have hn1 : 0 ≤ (n : Int) := by omega
    have hn2 : ¬ (n : Int) < 0 := by omega
    have C0 := Lib.hid c0; have C1 := Lib.hid c1; have C2 := Lib.hid c2; have C3 := Lib.hid c3
    clear hnx hx' c0 c1 c2 c3
    go_enter Try.func49, Try.ntmps49
    go_wp2_with fail
    refine HX.out.mono ?_
    rintro e w1 ⟨rfl, hb⟩
    replace k0 : w1.cell? ⟨w.heap.size + 1, 0, none⟩ = some (.int .i64 0) := (hb.cell (p := ⟨w.heap.size + 1, 0, none⟩) (by simp <;> omega)).trans (by go_simp); replace k0f : w1.frozen? ⟨w.heap.size + 1, 0, none⟩ = false := (hb.frozen (p := ⟨w.heap.size + 1, 0, none⟩) (by simp <;> omega)).trans (by go_simp); replace k1 : w1.cell? ⟨w.heap.size + 1, 1, none⟩ = some (.slice none 0 0) := (hb.cell (p := ⟨w.heap.size + 1, 1, none⟩) (by simp <;> omega)).trans (by go_simp); replace k1f : w1.frozen? ⟨w.heap.size + 1, 1, none⟩ = false := (hb.frozen (p := ⟨w.heap.size + 1, 1, none⟩) (by simp <;> omega)).trans (by go_simp); replace k2 : w1.cell? ⟨w.heap.size + 1, 2, none⟩ = some (.slice none 0 0) := (hb.cell (p := ⟨w.heap.size + 1, 2, none⟩) (by simp <;> omega)).trans (by go_simp); replace k2f : w1.frozen? ⟨w.heap.size + 1, 2, none⟩ = false := (hb.frozen (p := ⟨w.heap.size + 1, 2, none⟩) (by simp <;> omega)).trans (by go_simp); replace k3 : w1.cell? ⟨w.heap.size + 1, 3, none⟩ = some (.int .i64 0) := (hb.cell (p := ⟨w.heap.size + 1, 3, none⟩) (by simp <;> omega)).trans (by go_simp); replace k3f : w1.frozen? ⟨w.heap.size + 1, 3, none⟩ = false := (hb.frozen (p := ⟨w.heap.size + 1, 3, none⟩) (by simp <;> omega)).trans (by go_simp)
    have GW : Hid (Below w.heap.size w w1) := Lib.hid (bel_call (by repeat' (first | (with_reducible exact Below.refl _ _) | (with_reducible assumption) | (with_reducible refine Below.drew ?_) | (with_reducible refine below_drewN ?_ _) | (with_reducible refine bel_alloc ?_ _) | (with_reducible refine Below.setCell ?_ ?_ _) | (with_reducible refine bel_call ?_ (by assumption)) | (simp <;> omega))) hb)
    have z1 : w.heap.size + 1 < w1.heap.size := by have := hb.size; simp at this; omega
    have c0 := (GW.out.cell (p := ⟨b, o + n * 4, none⟩) hbb).trans C0.out
    have c1 := (GW.out.cell (p := ⟨b, o + n * 4 + 1, none⟩) hbb).trans C1.out
    have c2 := (GW.out.cell (p := ⟨b, o + n * 4 + 2, none⟩) hbb).trans C2.out
    have c3 := (GW.out.cell (p := ⟨b, o + n * 4 + 3, none⟩) hbb).trans C3.out
    have HO := Lib.hid (own_any _ _ x'.1 x'.2.2.2 x'.2.1 x'.2.2.1 w1 (hfv.out.below GW.out) (htv.out.below GW.out) s1 s2)
    unfold OwnP at HO
    clear hb
    go_wp2_with fail
    refine HO.out.mono ?_
    rintro e w2 ⟨v1, v2, rfl, h1, h2, hb⟩
    have H1 := Lib.hid h1
    have H2 := Lib.hid h2
    obtain ⟨fo1, fc1, rfl, -, -, -, -⟩ := h1.form
    obtain ⟨to1, tc1, rfl, -, -, -, -⟩ := h2.form
    replace m0 : w2.cell? ⟨w.heap.size + 1, 0, none⟩ = some (.int .i64 0) := (hb.cell (p := ⟨w.heap.size + 1, 0, none⟩) (by simp <;> omega)).trans (by go_simp); replace m0f : w2.frozen? ⟨w.heap.size + 1, 0, none⟩ = false := (hb.frozen (p := ⟨w.heap.size + 1, 0, none⟩) (by simp <;> omega)).trans (by go_simp); replace m1 : w2.cell? ⟨w.heap.size + 1, 1, none⟩ = some (.slice none 0 0) := (hb.cell (p := ⟨w.heap.size + 1, 1, none⟩) (by simp <;> omega)).trans (by go_simp); replace m1f : w2.frozen? ⟨w.heap.size + 1, 1, none⟩ = false := (hb.frozen (p := ⟨w.heap.size + 1, 1, none⟩) (by simp <;> omega)).trans (by go_simp); replace m2 : w2.cell? ⟨w.heap.size + 1, 2, none⟩ = some (.slice none 0 0) := (hb.cell (p := ⟨w.heap.size + 1, 2, none⟩) (by simp <;> omega)).trans (by go_simp); replace m2f : w2.frozen? ⟨w.heap.size + 1, 2, none⟩ = false := (hb.frozen (p := ⟨w.heap.size + 1, 2, none⟩) (by simp <;> omega)).trans (by go_simp); replace m3 : w2.cell? ⟨w.heap.size + 1, 3, none⟩ = some (.int .i64 0) := (hb.cell (p := ⟨w.heap.size + 1, 3, none⟩) (by simp <;> omega)).trans (by go_simp); replace m3f : w2.frozen? ⟨w.heap.size + 1, 3, none⟩ = false := (hb.frozen (p := ⟨w.heap.size + 1, 3, none⟩) (by simp <;> omega)).trans (by go_simp)
    have GW2 := Lib.hid (bel_call GW.out hb)
    have z2 := hb.size
    have hs2 := gb_set (gb_set (gb_set (gb_set (gb_refl w2 (some (w.heap.size + 1))) (p := ⟨w.heap.size + 1, 0, none⟩) (.inl rfl) (.int .i64 x'.1)) (p := ⟨w.heap.size + 1, 1, none⟩) (.inl rfl) (.slice fo1 x'.2.1.length fc1)) (p := ⟨w.heap.size + 1, 2, none⟩) (.inl rfl) (.slice to1 x'.2.2.1.length tc1)) (p := ⟨w.heap.size + 1, 3, none⟩) (.inl rfl) (.int .i64 x'.2.2.2)
    have HS2 := Lib.hid hs2
    clear h1 h2 hb hs2
    go_wp2_with fail
    refine bodyPost_ret (v := .tuple #[.agg #[.int .i64 x'.1, .slice fo1 x'.2.1.length fc1, .slice to1 x'.2.2.1.length tc1, .int .i64 x'.2.2.2], .bool true]) (by simp [results, Try.results49, go_sem]; go_simp) rfl ⟨_, _, rfl, ?_, ?_, ?_⟩
    · exact (ownS_away H1.out HS2.out (by omega)).mono (by omega)
    · exact (ownS_away H2.out HS2.out (by omega)).mono (by omega)
    · exact (((GW2.out.setCell (p := ⟨w.heap.size + 1, 0, none⟩) (by simp only; omega) _).setCell (p := ⟨w.heap.size + 1, 1, none⟩) (by simp only; omega) _).setCell (p := ⟨w.heap.size + 1, 2, none⟩) (by simp only; omega) _).setCell (p := ⟨w.heap.size + 1, 3, none⟩) (by simp only; omega) _
end Rm
end Go.Proofs.Ytbeniogffhihlaa
