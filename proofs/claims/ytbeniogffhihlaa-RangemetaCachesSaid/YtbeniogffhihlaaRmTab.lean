/- rangemeta: slices.IndexFunc over ranges, with any predicate. rangemeta: the closures; find. rangemeta: find. rangemeta: a table: New, Find. rangemeta: Split's own search. rangemeta: New. -/
import Derived.Test.YtbeniogffhihlaaRm
import Derived.Shelf.Abstract
set_option linter.unusedVariables false
set_option linter.unusedSimpArgs false
namespace Go.Proofs.Ytbeniogffhihlaa
open Go.RowKit
namespace Rm
/-- the first place at which p holds, or -1 -/
def idxF (p : RangeD → Bool) (l : List RangeD) : Int := match l.findIdx? p with | none => -1 | some i => (i : Int)
theorem idxF_none {p : RangeD → Bool} {l : List RangeD} (h : ∀ x ∈ l, p x = false) : idxF p l = -1 := by
  unfold idxF
  rw [List.findIdx?_eq_none_iff.2 (fun x hx => by simpa using h x hx)]
theorem idxF_some {p : RangeD → Bool} {l : List RangeD} {k : Nat} {x : RangeD} (h : ∀ y ∈ l.take k, p y = false) (hx : l[k]? = some x) (hp : p x = true) : idxF p l = k := by
  unfold idxF
  obtain ⟨hk, rfl⟩ := List.getElem?_eq_some_iff.1 hx
  have : l.findIdx? p = some k := by
    rw [List.findIdx?_eq_some_iff_getElem]
    refine ⟨hk, hp, fun j hj => ?_⟩
    have := h _ (List.mem_take_iff_getElem.2 ⟨j, by omega, rfl⟩)
    simpa using this
  rw [this]
set_option maxRecDepth 100000 in
set_option maxHeartbeats 2000000 in
theorem indexFunc_any (g : Nat) (cb : Array Value) (p : RangeD → Bool) (v : Value) (l : List RangeD) (w : World) (h : IsRgs w v l)
    (eg : ∀ (args : Array Value) (w : World), Sem.run Try.prog (callFunc g args) w = .ok (.enter g args) w)
    (hp : ∀ w' (x : RangeD) fv tv, Below w.heap.size w w' → IsB w' fv x.2.1 → IsB w' tv x.2.2.1 → Calls Try.prog g (#[.agg #[.int .i64 x.1, fv, tv, .int .i64 x.2.2.2]] ++ cb) w' (Ret (.bool (p x)) w')) :
    Calls Try.prog 42 #[v, .func (.func g) #[] cb] w (Ret (.int .i64 (idxF p l)) w) := by
  have hm := h.max
  obtain ⟨ao, cap, rfl, hnc, hcap, -⟩ := h.form
  have HB := Lib.hid h
  have HP := Lib.hid hp
  clear h hp
  go_enter Try.func42, Try.ntmps42
  go_wp2_with fail
  go_loopw [8] (fun i wr => ∃ k : Nat, k ≤ l.length ∧ i = .int .i64 k ∧ Hid (∀ y ∈ l.take k, p y = false) ∧ Hid (Below w.heap.size w wr)) (fun i _ => l.length - (intOf i).toNat)
  case atStart => exact ⟨0, Nat.zero_le _, rfl, fun y hy => by simp at hy, Below.refl _ _⟩
  case round =>
    obtain ⟨k, hk, rfl, hall, hbel⟩ := hrel
    by_cases hlt : k < l.length
    · obtain ⟨b, o, x, fv, tv, hao, hbb, hx, c0', c1', c2', c3', hfv, htv, -⟩ := IsRgs.at4 HB.out hlt
      subst hao
      have c0 := (hbel.out.cell (p := ⟨b, o + k * 4, none⟩) hbb).trans c0'
      have c1 := (hbel.out.cell (p := ⟨b, o + k * 4 + 1, none⟩) hbb).trans c1'
      have c2 := (hbel.out.cell (p := ⟨b, o + k * 4 + 2, none⟩) hbb).trans c2'
      have c3 := (hbel.out.cell (p := ⟨b, o + k * 4 + 3, none⟩) hbb).trans c3'
      obtain ⟨fo, fc, rfl, -, -, -⟩ := hfv.out.form
      obtain ⟨to, tc, rfl, -, -, -⟩ := htv.out.form
      have HC := Lib.hid (HP.out wr x _ _ hbel.out (hfv.out.below hbel.out) (htv.out.below hbel.out))
      have hl0 : (k : Int) < l.length := by omega
      have hl1 : 0 ≤ (k : Int) := by omega
      have hw1 := IntWalk.i64_in ((k : Int) + 1) (by omega)
      clear c0' c1' c2' c3'
      cases hpx : p x
      · rw [hpx] at HC
        go_wp2_with fail
        refine HC.out.mono ?_
        rintro e w1 ⟨rfl, hb⟩
        have G1 := Lib.hid (bel_call hbel.out hb)
        have HALL : Hid (∀ y ∈ l.take (k + 1), p y = false) := Lib.hid (by
          rw [take_snoc hx.out]
          intro y hy
          rcases List.mem_append.1 hy with h | h
          · exact hall.out y h
          · rw [List.mem_singleton.1 h]; exact hpx)
        clear hb c0 c1 c2 c3
        go_wp2_with fail
        go_roundw
        case rel => exact ⟨k + 1, by omega, by go_num, HALL.out, G1.out⟩
        case measure => simp [intOf]; omega
      · rw [hpx] at HC
        have HI := Lib.hid (idxF_some hall.out hx.out hpx)
        go_wp2_with fail
        refine HC.out.mono ?_
        rintro e w1 ⟨rfl, hb⟩
        have G1 := Lib.hid (bel_call hbel.out hb)
        clear hb c0 c1 c2 c3
        go_wp2_with fail
        go_ret
        exact ⟨by rw [HI.out]; rfl, G1.out⟩
    · have hkl : k = l.length := by omega
      subst hkl
      have HI := Lib.hid (idxF_none (p := p) (l := l) (fun x hx => hall.out x (by rw [List.take_length]; exact hx)))
      go_wp2_with fail
      go_ret
      exact ⟨by rw [HI.out]; rfl, hbel.out⟩
end Rm
end Go.Proofs.Ytbeniogffhihlaa
namespace Go.Proofs.Ytbeniogffhihlaa
open Go.RowKit
namespace Rm
set_option maxRecDepth 100000 in
set_option maxHeartbeats 1000000 in
theorem findC_any (fv tv kv : Value) (id gen : Int) (f t k : List Int) (kb : Nat) (w : World) (hf : IsB w fv f) (ht : IsB w tv t) (hk : IsB w kv k) (hc : w.cell? ⟨kb, 0, none⟩ = some kv) (hkb : kb < w.heap.size) :
    Calls Try.prog 78 #[.agg #[.int .i64 id, fv, tv, .int .i64 gen], .pointer (some ⟨kb, 0, none⟩)] w (Ret (.bool (holdsB (f, t) k)) w) := by
  obtain ⟨fo, fc, rfl, -, -, -⟩ := hf.form
  obtain ⟨to, tc, rfl, -, -, -⟩ := ht.form
  obtain ⟨ko, kc, rfl, -, -, -⟩ := hk.form
  have HC := Lib.hid (holds_any _ _ _ f t k _ (hf.alloc (.cells #[.int .i64 id, .slice fo f.length fc, .slice to t.length tc, .int .i64 gen] 39)) (ht.alloc (.cells #[.int .i64 id, .slice fo f.length fc, .slice to t.length tc, .int .i64 gen] 39)) (hk.alloc (.cells #[.int .i64 id, .slice fo f.length fc, .slice to t.length tc, .int .i64 gen] 39)))
  clear hf ht hk
  go_enter Try.func78, Try.ntmps78
  go_wp2_with fail
  refine HC.out.mono ?_
  rintro e w1 ⟨rfl, hb⟩
  have GG : Hid (Below w.heap.size w w1) := Lib.hid (bel_call (bel_alloc (Below.refl _ w) _) hb)
  clear hb
  go_wp2_with fail
  go_ret
  exact ⟨rfl, GG.out⟩
set_option maxRecDepth 100000 in
set_option maxHeartbeats 1000000 in
theorem namedC_any (fv tv : Value) (id gen n : Int) (f t : List Int) (nb : Nat) (w : World) (hf : IsB w fv f) (ht : IsB w tv t) (hc : w.cell? ⟨nb, 0, none⟩ = some (.int .i64 n)) (hnb : nb < w.heap.size) :
    Calls Try.prog 43 #[.agg #[.int .i64 id, fv, tv, .int .i64 gen], .pointer (some ⟨nb, 0, none⟩)] w (Ret (.bool (id == n)) w) := by
  obtain ⟨fo, fc, rfl, -, -, -⟩ := hf.form
  obtain ⟨to, tc, rfl, -, -, -⟩ := ht.form
  clear hf ht
  go_enter Try.func43, Try.ntmps43
  go_wp2_with fail
  go_ret
  exact ⟨rfl, bel_alloc (Below.refl _ w) _⟩
set_option maxRecDepth 100000 in
set_option maxHeartbeats 1000000 in
theorem wrongC_any (fv tv : Value) (id gen : Int) (f t : List Int) (w : World) (hf : IsB w fv f) (ht : IsB w tv t) :
    Calls Try.prog 63 #[.agg #[.int .i64 id, fv, tv, .int .i64 gen]] w (Ret (.bool (!rightB (id, f, t, gen))) w) := by
  obtain ⟨fo, fc, rfl, -, -, -⟩ := hf.form
  obtain ⟨to, tc, rfl, -, -, -⟩ := ht.form
  have HC := Lib.hid (right_any _ _ id gen f t _ (hf.alloc (.cells #[.int .i64 id, .slice fo f.length fc, .slice to t.length tc, .int .i64 gen] 39)) (ht.alloc (.cells #[.int .i64 id, .slice fo f.length fc, .slice to t.length tc, .int .i64 gen] 39)))
  clear hf ht
  go_enter Try.func63, Try.ntmps63
  go_wp2_with fail
  refine HC.out.mono ?_
  rintro e w1 ⟨rfl, hb⟩
  have GG : Hid (Below w.heap.size w w1) := Lib.hid (bel_call (bel_alloc (Below.refl _ w) _) hb)
  clear hb
  go_wp2_with fail
  go_ret
  exact ⟨rfl, GG.out⟩
end Rm
end Go.Proofs.Ytbeniogffhihlaa
namespace Go.Proofs.Ytbeniogffhihlaa
open Go.RowKit
namespace Rm
def findF (l : List RangeD) (k : List Int) : Option RangeD := l.find? fun x => holdsB (x.2.1, x.2.2.1) k
def zeroR : RangeD := (0, [], [], 0)
def FindP (r : RangeD) (b : Bool) (w : World) (e : Ending) (w' : World) : Prop := ∃ fv tv, e = .returned (.tuple #[.agg #[.int .i64 r.1, fv, tv, .int .i64 r.2.2.2], .bool b]) ∧ OwnS w' w.heap.size 5 fv r.2.1 ∧ OwnS w' w.heap.size 5 tv r.2.2.1 ∧ Below w.heap.size w w'
theorem idx_find {p : RangeD → Bool} {l : List RangeD} : (idxF p l = -1 ∧ l.find? p = none) ∨ ∃ k x, idxF p l = ((k : Nat) : Int) ∧ k < l.length ∧ l[k]? = some x ∧ l.find? p = some x := by
  unfold idxF
  cases h : l.findIdx? p with
  | none => exact .inl ⟨rfl, by rw [List.find?_eq_none]; intro x hx; have := List.findIdx?_eq_none_iff.1 h x hx; simpa using this⟩
  | some k =>
    obtain ⟨hk, hp, hb⟩ := List.findIdx?_eq_some_iff_getElem.1 h
    refine .inr ⟨k, l[k], rfl, hk, List.getElem?_eq_getElem hk, ?_⟩
    rw [List.find?_eq_some_iff_getElem]
    exact ⟨hp, k, hk, rfl, fun j hj => by simpa using hb j hj⟩
set_option maxRecDepth 100000 in
set_option maxHeartbeats 4000000 in
theorem find_any (v kv : Value) (l : List RangeD) (k : List Int) (w : World) (h : IsRgs w v l) (hk : IsB w kv k) (hs : ∀ x ∈ l, x.2.1.length ≤ 140737488355328 ∧ x.2.2.1.length ≤ 140737488355328) :
    Calls Try.prog 49 #[v, kv] w (FindP ((findF l k).getD zeroR) (findF l k).isSome w) := by
  have hm := h.max
  obtain ⟨ao, cap, rfl, hnc, hcap, -⟩ := h.form
  obtain ⟨ko, kc, rfl, -, -, -⟩ := hk.form
  have hmf : ∀ (fn : Fn) (first cap : Array Value) (w : World), (Instr.makeFunc fn first cap).run Try.prog w = .ok (.func fn first cap) w := fun _ _ _ _ => rfl
  have HB := Lib.hid h
  have HK := Lib.hid hk
  have HS := Lib.hid hs
  have W2 : World := w
  have HB2 := (HB.out.alloc rgR_stays (.cells #[.slice ko k.length kc] 23)).alloc rgR_stays (.cells #[.int .i64 0, .slice none 0 0, .slice none 0 0, .int .i64 0] 39)
  have HK2 := Lib.hid ((HK.out.alloc (.cells #[.slice ko k.length kc] 23)).alloc (.cells #[.int .i64 0, .slice none 0 0, .slice none 0 0, .int .i64 0] 39))
  have hcell : ((w.alloc (.cells #[.slice ko k.length kc] 23)).alloc (.cells #[.int .i64 0, .slice none 0 0, .slice none 0 0, .int .i64 0] 39)).cell? ⟨w.heap.size, 0, none⟩ = some (.slice ko k.length kc) := by go_simp
  have HX := Lib.hid (indexFunc_any 78 #[.pointer (some ⟨w.heap.size, 0, none⟩)] (fun x => holdsB (x.2.1, x.2.2.1) k) _ l _ HB2 (enters_of Try.func78 (by kernel_rfl) rfl)
    (fun w' x fv tv hb hf ht => findC_any fv tv _ x.1 x.2.2.2 x.2.1 x.2.2.1 k w.heap.size w' hf ht (HK2.out.below hb) ((hb.cell (p := ⟨w.heap.size, 0, none⟩) (by simp <;> omega)).trans hcell) (by have := hb.size; simp at this; omega)))
  have hcase := idx_find (p := fun x => holdsB (x.2.1, x.2.2.1) k) (l := l)
  generalize idxF (fun x => holdsB (x.2.1, x.2.2.1) k) l = ix at *
  have hF : findF l k = l.find? fun x => holdsB (x.2.1, x.2.2.1) k := rfl
  clear h hk hs HB2 hcell W2
  rcases hcase with ⟨rfl, hn⟩ | ⟨n, x, rfl, hnl, hnx, hn⟩
  · rw [hF, hn]
    clear hF hn
    go_enter Try.func49, Try.ntmps49
    go_wp2_with fail
    refine HX.out.mono ?_
    rintro e w1 ⟨rfl, hb⟩
    replace k0 : w1.cell? ⟨w.heap.size + 1, 0, none⟩ = some (.int .i64 0) := (hb.cell (p := ⟨w.heap.size + 1, 0, none⟩) (by simp <;> omega)).trans (by go_simp); replace k0f : w1.frozen? ⟨w.heap.size + 1, 0, none⟩ = false := (hb.frozen (p := ⟨w.heap.size + 1, 0, none⟩) (by simp <;> omega)).trans (by go_simp); replace k1 : w1.cell? ⟨w.heap.size + 1, 1, none⟩ = some (.slice none 0 0) := (hb.cell (p := ⟨w.heap.size + 1, 1, none⟩) (by simp <;> omega)).trans (by go_simp); replace k1f : w1.frozen? ⟨w.heap.size + 1, 1, none⟩ = false := (hb.frozen (p := ⟨w.heap.size + 1, 1, none⟩) (by simp <;> omega)).trans (by go_simp); replace k2 : w1.cell? ⟨w.heap.size + 1, 2, none⟩ = some (.slice none 0 0) := (hb.cell (p := ⟨w.heap.size + 1, 2, none⟩) (by simp <;> omega)).trans (by go_simp); replace k2f : w1.frozen? ⟨w.heap.size + 1, 2, none⟩ = false := (hb.frozen (p := ⟨w.heap.size + 1, 2, none⟩) (by simp <;> omega)).trans (by go_simp); replace k3 : w1.cell? ⟨w.heap.size + 1, 3, none⟩ = some (.int .i64 0) := (hb.cell (p := ⟨w.heap.size + 1, 3, none⟩) (by simp <;> omega)).trans (by go_simp); replace k3f : w1.frozen? ⟨w.heap.size + 1, 3, none⟩ = false := (hb.frozen (p := ⟨w.heap.size + 1, 3, none⟩) (by simp <;> omega)).trans (by go_simp)
    have GW : Hid (Below w.heap.size w w1) := Lib.hid (bel_call (by repeat' (first | (with_reducible exact Below.refl _ _) | (with_reducible assumption) | (with_reducible refine Below.drew ?_) | (with_reducible refine below_drewN ?_ _) | (with_reducible refine bel_alloc ?_ _) | (with_reducible refine Below.setCell ?_ ?_ _) | (with_reducible refine bel_call ?_ (by assumption)) | (simp <;> omega))) hb)
    clear hb
    go_wp2_with fail
    refine bodyPost_ret (v := .tuple #[.agg #[.int .i64 0, .slice none 0 0, .slice none 0 0, .int .i64 0], .bool false]) (by simp [results, Try.results49, go_sem]; go_simp) rfl ⟨_, _, rfl, ⟨Rng.nil, .inl ⟨rfl, rfl⟩⟩, ⟨Rng.nil, .inl ⟨rfl, rfl⟩⟩, ?_⟩
    exact (((GW.out.setCell (p := ⟨w.heap.size + 1, 0, none⟩) (by simp only; omega) _).setCell (p := ⟨w.heap.size + 1, 1, none⟩) (by simp only; omega) _).setCell (p := ⟨w.heap.size + 1, 2, none⟩) (by simp only; omega) _).setCell (p := ⟨w.heap.size + 1, 3, none⟩) (by simp only; omega) _
  · rw [hF, hn]
    clear hF hn
    obtain ⟨b, o, x', fv, tv, rfl, hbb, hx', c0, c1, c2, c3, hfv, htv, -⟩ := IsRgs.at4 HB.out hnl
    have hxx : x' = x := by have := hx'.out; rw [hnx] at this; exact (Option.some.inj this).symm
    subst hxx
    obtain ⟨s1, s2⟩ := HS.out x' (List.mem_of_getElem? hnx)
    obtain ⟨fo, fc, rfl, -, -, -⟩ := hfv.out.form
    obtain ⟨to, tc, rfl, -, -, -⟩ := htv.out.form
    have hn0 : (n : Int) < l.length := by omega
    have hn1 : 0 ≤ (n : Int) := by omega
    have hn2 : ¬ (n : Int) < 0 := by omega
    have C0 := Lib.hid c0; have C1 := Lib.hid c1; have C2 := Lib.hid c2; have C3 := Lib.hid c3
    clear hnx hx' c0 c1 c2 c3
    go_enter Try.func49, Try.ntmps49
    go_wp2_with fail
    refine HX.out.mono ?_
    rintro e w1 ⟨rfl, hb⟩
    replace k0 : w1.cell? ⟨w.heap.size + 1, 0, none⟩ = some (.int .i64 0) := (hb.cell (p := ⟨w.heap.size + 1, 0, none⟩) (by simp <;> omega)).trans (by go_simp); replace k0f : w1.frozen? ⟨w.heap.size + 1, 0, none⟩ = false := (hb.frozen (p := ⟨w.heap.size + 1, 0, none⟩) (by simp <;> omega)).trans (by go_simp); replace k1 : w1.cell? ⟨w.heap.size + 1, 1, none⟩ = some (.slice none 0 0) := (hb.cell (p := ⟨w.heap.size + 1, 1, none⟩) (by simp <;> omega)).trans (by go_simp); replace k1f : w1.frozen? ⟨w.heap.size + 1, 1, none⟩ = false := (hb.frozen (p := ⟨w.heap.size + 1, 1, none⟩) (by simp <;> omega)).trans (by go_simp); replace k2 : w1.cell? ⟨w.heap.size + 1, 2, none⟩ = some (.slice none 0 0) := (hb.cell (p := ⟨w.heap.size + 1, 2, none⟩) (by simp <;> omega)).trans (by go_simp); replace k2f : w1.frozen? ⟨w.heap.size + 1, 2, none⟩ = false := (hb.frozen (p := ⟨w.heap.size + 1, 2, none⟩) (by simp <;> omega)).trans (by go_simp); replace k3 : w1.cell? ⟨w.heap.size + 1, 3, none⟩ = some (.int .i64 0) := (hb.cell (p := ⟨w.heap.size + 1, 3, none⟩) (by simp <;> omega)).trans (by go_simp); replace k3f : w1.frozen? ⟨w.heap.size + 1, 3, none⟩ = false := (hb.frozen (p := ⟨w.heap.size + 1, 3, none⟩) (by simp <;> omega)).trans (by go_simp)
    have GW : Hid (Below w.heap.size w w1) := Lib.hid (bel_call (by repeat' (first | (with_reducible exact Below.refl _ _) | (with_reducible assumption) | (with_reducible refine Below.drew ?_) | (with_reducible refine below_drewN ?_ _) | (with_reducible refine bel_alloc ?_ _) | (with_reducible refine Below.setCell ?_ ?_ _) | (with_reducible refine bel_call ?_ (by assumption)) | (simp <;> omega))) hb)
    have z1 : w.heap.size + 1 < w1.heap.size := by have := hb.size; simp at this; omega
    have c0 := (GW.out.cell (p := ⟨b, o + n * 4, none⟩) hbb).trans C0.out
    have c1 := (GW.out.cell (p := ⟨b, o + n * 4 + 1, none⟩) hbb).trans C1.out
    have c2 := (GW.out.cell (p := ⟨b, o + n * 4 + 2, none⟩) hbb).trans C2.out
    have c3 := (GW.out.cell (p := ⟨b, o + n * 4 + 3, none⟩) hbb).trans C3.out
    have HO := Lib.hid (own_any _ _ x'.1 x'.2.2.2 x'.2.1 x'.2.2.1 w1 (hfv.out.below GW.out) (htv.out.below GW.out) s1 s2)
    unfold OwnP at HO
    clear hb
    go_wp2_with fail
    refine HO.out.mono ?_
    rintro e w2 ⟨v1, v2, rfl, h1, h2, hb⟩
    have H1 := Lib.hid h1
    have H2 := Lib.hid h2
    obtain ⟨fo1, fc1, rfl, -, -, -, -⟩ := h1.form
    obtain ⟨to1, tc1, rfl, -, -, -, -⟩ := h2.form
    replace m0 : w2.cell? ⟨w.heap.size + 1, 0, none⟩ = some (.int .i64 0) := (hb.cell (p := ⟨w.heap.size + 1, 0, none⟩) (by simp <;> omega)).trans (by go_simp); replace m0f : w2.frozen? ⟨w.heap.size + 1, 0, none⟩ = false := (hb.frozen (p := ⟨w.heap.size + 1, 0, none⟩) (by simp <;> omega)).trans (by go_simp); replace m1 : w2.cell? ⟨w.heap.size + 1, 1, none⟩ = some (.slice none 0 0) := (hb.cell (p := ⟨w.heap.size + 1, 1, none⟩) (by simp <;> omega)).trans (by go_simp); replace m1f : w2.frozen? ⟨w.heap.size + 1, 1, none⟩ = false := (hb.frozen (p := ⟨w.heap.size + 1, 1, none⟩) (by simp <;> omega)).trans (by go_simp); replace m2 : w2.cell? ⟨w.heap.size + 1, 2, none⟩ = some (.slice none 0 0) := (hb.cell (p := ⟨w.heap.size + 1, 2, none⟩) (by simp <;> omega)).trans (by go_simp); replace m2f : w2.frozen? ⟨w.heap.size + 1, 2, none⟩ = false := (hb.frozen (p := ⟨w.heap.size + 1, 2, none⟩) (by simp <;> omega)).trans (by go_simp); replace m3 : w2.cell? ⟨w.heap.size + 1, 3, none⟩ = some (.int .i64 0) := (hb.cell (p := ⟨w.heap.size + 1, 3, none⟩) (by simp <;> omega)).trans (by go_simp); replace m3f : w2.frozen? ⟨w.heap.size + 1, 3, none⟩ = false := (hb.frozen (p := ⟨w.heap.size + 1, 3, none⟩) (by simp <;> omega)).trans (by go_simp)
    have GW2 := Lib.hid (bel_call GW.out hb)
    have z2 := hb.size
    have hs2 := gb_set (gb_set (gb_set (gb_set (gb_refl w2 (some (w.heap.size + 1))) (p := ⟨w.heap.size + 1, 0, none⟩) (.inl rfl) (.int .i64 x'.1)) (p := ⟨w.heap.size + 1, 1, none⟩) (.inl rfl) (.slice fo1 x'.2.1.length fc1)) (p := ⟨w.heap.size + 1, 2, none⟩) (.inl rfl) (.slice to1 x'.2.2.1.length tc1)) (p := ⟨w.heap.size + 1, 3, none⟩) (.inl rfl) (.int .i64 x'.2.2.2)
    have HS2 := Lib.hid hs2
    clear h1 h2 hb hs2
    go_wp2_with fail
    refine bodyPost_ret (v := .tuple #[.agg #[.int .i64 x'.1, .slice fo1 x'.2.1.length fc1, .slice to1 x'.2.2.1.length tc1, .int .i64 x'.2.2.2], .bool true]) (by simp [results, Try.results49, go_sem]; go_simp) rfl ⟨_, _, rfl, ?_, ?_, ?_⟩
    · exact (ownS_away H1.out HS2.out (by omega)).mono (by omega)
    · exact (ownS_away H2.out HS2.out (by omega)).mono (by omega)
    · exact (((GW2.out.setCell (p := ⟨w.heap.size + 1, 0, none⟩) (by simp only; omega) _).setCell (p := ⟨w.heap.size + 1, 1, none⟩) (by simp only; omega) _).setCell (p := ⟨w.heap.size + 1, 2, none⟩) (by simp only; omega) _).setCell (p := ⟨w.heap.size + 1, 3, none⟩) (by simp only; omega) _
end Rm
end Go.Proofs.Ytbeniogffhihlaa
namespace Go.Proofs.Ytbeniogffhihlaa
open Go.RowKit
namespace Rm
set_option maxRecDepth 100000 in
set_option maxHeartbeats 2000000 in
theorem tFind_any (tb : Nat) (v kv : Value) (l : List RangeD) (k : List Int) (w : World) (hc : w.cell? ⟨tb, 0, none⟩ = some v) (htb : tb < w.heap.size) (h : IsRgs w v l) (hk : IsB w kv k) (hs : ∀ x ∈ l, x.2.1.length ≤ 140737488355328 ∧ x.2.2.1.length ≤ 140737488355328) :
    Calls Try.prog 17 #[.pointer (some ⟨tb, 0, none⟩), kv] w (OwnP ((findF l k).getD zeroR) w) := by
  obtain ⟨ao, cap, rfl, -, -, -⟩ := h.form
  obtain ⟨ko, kc, rfl, -, -, -⟩ := hk.form
  have HX := Lib.hid (find_any _ _ l k _ (h.alloc rgR_stays (.cells #[.int .i64 0, .slice none 0 0, .slice none 0 0, .int .i64 0] 39)) (hk.alloc (.cells #[.int .i64 0, .slice none 0 0, .slice none 0 0, .int .i64 0] 39)) hs)
  unfold FindP at HX
  generalize (findF l k).getD zeroR = r at *
  obtain ⟨id, f, t, gen⟩ := r
  clear h hk hs
  go_enter Try.func17, Try.ntmps17
  go_wp2_with fail
  refine HX.out.mono ?_
  rintro e w1 ⟨v1, v2, rfl, h1, h2, hb⟩
  have H1 := Lib.hid h1
  have H2 := Lib.hid h2
  obtain ⟨fo1, fc1, rfl, -, -, -, -⟩ := h1.form
  obtain ⟨to1, tc1, rfl, -, -, -, -⟩ := h2.form
  replace k0 : w1.cell? ⟨w.heap.size, 0, none⟩ = some (.int .i64 0) := (hb.cell (p := ⟨w.heap.size, 0, none⟩) (by simp <;> omega)).trans (by go_simp); replace k0f : w1.frozen? ⟨w.heap.size, 0, none⟩ = false := (hb.frozen (p := ⟨w.heap.size, 0, none⟩) (by simp <;> omega)).trans (by go_simp); replace k1 : w1.cell? ⟨w.heap.size, 1, none⟩ = some (.slice none 0 0) := (hb.cell (p := ⟨w.heap.size, 1, none⟩) (by simp <;> omega)).trans (by go_simp); replace k1f : w1.frozen? ⟨w.heap.size, 1, none⟩ = false := (hb.frozen (p := ⟨w.heap.size, 1, none⟩) (by simp <;> omega)).trans (by go_simp); replace k2 : w1.cell? ⟨w.heap.size, 2, none⟩ = some (.slice none 0 0) := (hb.cell (p := ⟨w.heap.size, 2, none⟩) (by simp <;> omega)).trans (by go_simp); replace k2f : w1.frozen? ⟨w.heap.size, 2, none⟩ = false := (hb.frozen (p := ⟨w.heap.size, 2, none⟩) (by simp <;> omega)).trans (by go_simp); replace k3 : w1.cell? ⟨w.heap.size, 3, none⟩ = some (.int .i64 0) := (hb.cell (p := ⟨w.heap.size, 3, none⟩) (by simp <;> omega)).trans (by go_simp); replace k3f : w1.frozen? ⟨w.heap.size, 3, none⟩ = false := (hb.frozen (p := ⟨w.heap.size, 3, none⟩) (by simp <;> omega)).trans (by go_simp)
  have GW : Hid (Below w.heap.size w w1) := Lib.hid (bel_call (by repeat' (first | (with_reducible exact Below.refl _ _) | (with_reducible assumption) | (with_reducible refine Below.drew ?_) | (with_reducible refine below_drewN ?_ _) | (with_reducible refine bel_alloc ?_ _) | (with_reducible refine Below.setCell ?_ ?_ _) | (with_reducible refine bel_call ?_ (by assumption)) | (simp <;> omega))) hb)
  have z1 : w.heap.size < w1.heap.size := by have := hb.size; simp at this; omega
  clear h1 h2 hb
  have hs2 := gb_set (gb_set (gb_set (gb_set (gb_refl w1 (some w.heap.size)) (p := ⟨w.heap.size, 0, none⟩) (.inl rfl) (.int .i64 id)) (p := ⟨w.heap.size, 1, none⟩) (.inl rfl) (.slice fo1 f.length fc1)) (p := ⟨w.heap.size, 2, none⟩) (.inl rfl) (.slice to1 t.length tc1)) (p := ⟨w.heap.size, 3, none⟩) (.inl rfl) (.int .i64 gen)
  have HS2 := Lib.hid hs2
  clear hs2
  go_wp2_with fail
  refine bodyPost_ret (v := .agg #[.int .i64 id, .slice fo1 f.length fc1, .slice to1 t.length tc1, .int .i64 gen]) (by simp [results, Try.results17, go_sem]; go_simp) rfl ⟨_, _, rfl, ?_, ?_, ?_⟩
  · exact ((ownS_away H1.out HS2.out (by simp)).mono (by simp)).alloc _
  · exact ((ownS_away H2.out HS2.out (by simp)).mono (by simp)).alloc _
  · exact ((((GW.out.setCell (p := ⟨w.heap.size, 0, none⟩) (Nat.le_refl _) _).setCell (p := ⟨w.heap.size, 1, none⟩) (Nat.le_refl _) _).setCell (p := ⟨w.heap.size, 2, none⟩) (Nat.le_refl _) _).setCell (p := ⟨w.heap.size, 3, none⟩) (Nat.le_refl _) _).alloc (by simp; omega) _
end Rm
end Go.Proofs.Ytbeniogffhihlaa
namespace Go.Proofs.Ytbeniogffhihlaa
open Go.RowKit
namespace Rm
set_option maxRecDepth 100000 in
set_option maxHeartbeats 2000000 in
theorem named_any (cb tb : Nat) (n : Int) (v : Value) (l : List RangeD) (w : World) (hc : w.cell? ⟨cb, 0, none⟩ = some (.pointer (some ⟨tb, 0, none⟩))) (ht : w.cell? ⟨tb, 0, none⟩ = some v) (hcb : cb < w.heap.size) (htb : tb < w.heap.size) (h : IsRgs w v l) :
    Calls Try.prog 41 #[.int .i64 n, .pointer (some ⟨cb, 0, none⟩)] w (Ret (.int .i64 (idxF (fun x => x.1 == n) l)) w) := by
  obtain ⟨ao, cap, rfl, -, -, -⟩ := h.form
  have hmf : ∀ (fn : Fn) (first cap : Array Value) (w : World), (Instr.makeFunc fn first cap).run Try.prog w = .ok (.func fn first cap) w := fun _ _ _ _ => rfl
  have hcell : (w.alloc (.cells #[.int .i64 n] 3)).cell? ⟨w.heap.size, 0, none⟩ = some (.int .i64 n) := by go_simp
  have HX := Lib.hid (indexFunc_any 43 #[.pointer (some ⟨w.heap.size, 0, none⟩)] (fun x => x.1 == n) _ l _ (h.alloc rgR_stays (.cells #[.int .i64 n] 3)) (enters_of Try.func43 (by kernel_rfl) rfl)
    (fun w' x fv tv hb hf ht => namedC_any fv tv x.1 x.2.2.2 n x.2.1 x.2.2.1 w.heap.size w' hf ht ((hb.cell (p := ⟨w.heap.size, 0, none⟩) (by simp)).trans hcell) (by have := hb.size; simp at this; omega)))
  generalize idxF (fun x => x.1 == n) l = ix at *
  clear h hcell
  go_enter Try.func41, Try.ntmps41
  go_wp2_with fail
  refine HX.out.mono ?_
  rintro e w1 ⟨rfl, hb⟩
  have GW : Hid (Below w.heap.size w w1) := Lib.hid (bel_call (by repeat' (first | (with_reducible exact Below.refl _ _) | (with_reducible assumption) | (with_reducible refine Below.drew ?_) | (with_reducible refine below_drewN ?_ _) | (with_reducible refine bel_alloc ?_ _) | (with_reducible refine Below.setCell ?_ ?_ _) | (with_reducible refine bel_call ?_ (by assumption)) | (simp <;> omega))) hb)
  clear hb
  go_wp2_with fail
  go_ret
  exact ⟨rfl, GW.out⟩
end Rm
end Go.Proofs.Ytbeniogffhihlaa
namespace Go.Proofs.Ytbeniogffhihlaa
open Go.RowKit
namespace Rm
/-- the world behind New -/
abbrev newW (w : World) : World := (w.alloc (.cells #[.int .i64 1, .slice none 0 0, .slice none 0 0, .int .i64 1] 39)).alloc (.cells #[.slice (some ⟨w.heap.size, 0, none⟩) 1 1] 80)
set_option maxRecDepth 100000 in
set_option maxHeartbeats 1000000 in
theorem new_any (w : World) : Calls Try.prog 11 #[] w fun e w' => e = .returned (.pointer (some ⟨w.heap.size + 1, 0, none⟩)) ∧ newW w = w' := by
  go_enter Try.func11, Try.ntmps11
  go_wp2_with fail
  go_ret
  exact ⟨rfl, rfl⟩
end Rm
end Go.Proofs.Ytbeniogffhihlaa
