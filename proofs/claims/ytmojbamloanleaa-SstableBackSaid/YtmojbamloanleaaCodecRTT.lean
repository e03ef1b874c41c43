/- codec: Text of both; length. codec: length, TakeText of both. codec: TakeText of both. codec: the document's TakeText. -/
import Derived.Test.YtmojbamloanleaaCat
import Derived.Test.YtmojbamloanleaaCodecRT
import Derived.Test.YtmojbamloanleaaCodecRX
set_option linter.unusedVariables false
set_option linter.unusedSimpArgs false
namespace Go.Proofs.Ytmojbamloanleaa
open Go.RowKit
set_option maxRecDepth 100000
theorem isBB_lit {w : World} (us : List Value) (ls : List (List Int)) (e : TypeId) (hl : us.length = ls.length) (hm : us.length ≤ 9223372036854775807) (h : ∀ (i : Nat) u l, us[i]? = some u → ls[i]? = some l → IsB w u l) :
    IsBB (w.alloc (.cells us.toArray e)) (.slice (some ⟨w.heap.size, 0, none⟩) us.length us.length) ls := by
  refine ⟨_, us.length, by rw [hl], by omega, by unfold maxLen; omega, fun hn => (by cases hn), fun a ha hp => ?_⟩
  cases ha
  refine ⟨rfl, by simp, fun i l hi => ?_⟩
  have hil : i < us.length := by have := (List.getElem?_eq_some_iff.1 hi).1; omega
  have hu : us[i]? = some (us[i]) := List.getElem?_eq_getElem hil
  refine ⟨us[i], ?_, (h i _ l hu hi).alloc _⟩
  show (w.alloc _).cell? ⟨w.heap.size, 0 + i, none⟩ = _
  rw [Nat.zero_add, cell_of_row _ w.heap.size i _ e (0, 0) (heap_alloc_new w _)]
  simp [hu]
theorem isBB_two {w : World} {u v : Value} {a b : List Int} (e : TypeId) (h : IsB w u a) (k : IsB w v b) : IsBB (w.alloc (.cells #[u, v] e)) (.slice (some ⟨w.heap.size, 0, none⟩) 2 2) [a, b] :=
  isBB_lit [u, v] [a, b] e rfl (by simp) (fun i x l hx hl => by
    match i, hx, hl with
    | 0, hx, hl => cases hx; cases hl; exact h
    | 1, hx, hl => cases hx; cases hl; exact k)
theorem isBB_three {w : World} {u v x : Value} {a b c : List Int} (e : TypeId) (h : IsB w u a) (k : IsB w v b) (m : IsB w x c) : IsBB (w.alloc (.cells #[u, v, x] e)) (.slice (some ⟨w.heap.size, 0, none⟩) 3 3) [a, b, c] :=
  isBB_lit [u, v, x] [a, b, c] e rfl (by simp) (fun i y l hy hl => by
    match i, hy, hl with
    | 0, hy, hl => cases hy; cases hl; exact h
    | 1, hy, hl => cases hy; cases hl; exact k
    | 2, hy, hl => cases hy; cases hl; exact m)
namespace Codec
def TextPost (l : List Int) (w : World) (e : Ending) (w' : World) : Prop :=
  ∃ v, e = .returned (.tuple #[v, .int .i64 0]) ∧ w'.ownsRow w.heap.size 5 1 v (numN l.length ++ l).length ((numN l.length ++ l).map (Value.int .u8)) ∧ Below w.heap.size w w'
set_option maxHeartbeats 400000 in
theorem text_long (v : Value) (l : List Int) (w : World) (h : IsB w v l) (hl : 2097152 < l.length) : Calls Try.prog 66 #[v] w fun e w' => e = .returned (.tuple #[.slice none 0 0, .int .i64 12]) ∧ w = w' := by
  have hm := h.max
  obtain ⟨ao, cap, rfl, _, _, _⟩ := h.form
  clear h
  go_enter Try.func66, Try.ntmps66
  go_wp2_with fail
  go_ret2
  exact ⟨rfl, rfl⟩
set_option maxHeartbeats 400000 in
theorem rText_long (v : Value) (l : List Int) (w : World) (h : IsB w v l) (hl : 2097152 < l.length) : Calls Try.prog 59 #[v] w fun e w' => e = .returned (.tuple #[.slice none 0 0, .int .i64 12]) ∧ w = w' := by
  have hm := h.max
  obtain ⟨ao, cap, rfl, _, _, _⟩ := h.form
  clear h
  go_enter Try.func59, Try.ntmps59
  go_wp2_with fail
  go_ret2
  exact ⟨rfl, rfl⟩
set_option maxHeartbeats 1000000 in
theorem text_ok (v : Value) (l : List Int) (w : World) (h : IsB w v l) (hl : l.length ≤ 2097152) : Calls Try.prog 66 #[v] w (TextPost l w) := by
  obtain ⟨ao, cap, rfl, _, _, _⟩ := h.form
  have HB := Lib.hid h
  have h10 := numN_len10 (n := l.length) (by omega)
  have H10 := Lib.hid h10
  clear h h10
  go_enter Try.func66, Try.ntmps66
  go_wp2_with fail
  refine (number_any l.length _ (by omega)).mono ?_
  unfold NumPost
  rintro e w1 ⟨nv, rfl, hnv, g1⟩
  have HN := Lib.hid hnv
  have HB1 := Lib.hid (HB.out.below g1)
  have G1 := Lib.hid g1
  obtain ⟨no, ncap, rfl, _, _, hq1, hq2⟩ := hnv.form
  have HBB := Lib.hid (isBB_two 25 HN.out.isB HB1.out)
  clear hnv g1 hq1 hq2
  go_wp2_with fail
  refine (concat_any _ [numN l.length, l] _ HBB.out (by unfold catLen; simp; have := H10.out; omega)).mono ?_
  unfold CatPost
  rintro e w2 ⟨cv, rfl, hcv, g2⟩
  have HC := Lib.hid hcv
  have G2 := Lib.hid (bel_call (bel_alloc G1.out _) g2)
  have z2 := G1.out.size
  clear hcv g2
  go_wp2_with fail
  go_ret2
  have e2 : [numN l.length, l].flatten = numN l.length ++ l := by simp
  have h3 := HC.out
  rw [e2] at h3
  exact ⟨_, rfl, own_mono h3 (by simp; omega), G2.out⟩
set_option maxHeartbeats 1000000 in
theorem rText_ok (v : Value) (l : List Int) (w : World) (h : IsB w v l) (hl : l.length ≤ 2097152) : Calls Try.prog 59 #[v] w (TextPost l w) := by
  obtain ⟨ao, cap, rfl, _, _, _⟩ := h.form
  have HB := Lib.hid h
  have h10 := numN_len10 (n := l.length) (by omega)
  obtain ⟨i0, hi0, hz0, hz1, hz2⟩ := info_parts infoU8
  have HI := Lib.hid hi0; have HZ0 := Lib.hid hz0; have HZ1 := Lib.hid hz1; have HZ2 := Lib.hid hz2
  clear hi0 hz0 hz1 hz2 h
  go_enter Try.func59, Try.ntmps59
  go_wp2_with fail
  refine (rNumber_any l.length _ (by omega)).mono ?_
  unfold RNumPost
  rintro e w1 ⟨nv, rfl, hnv, g1⟩
  have HN := Lib.hid hnv
  have HB1 := Lib.hid (HB.out.below g1)
  have G1 := Lib.hid g1
  have z1 := g1.size
  obtain ⟨no, ncap, rfl, _, _, hq1, hq2⟩ := own_form hnv
  clear hnv g1 hq1 hq2
  go_wp2_with (at_builtin; refine wpList_append_bytes (base := w.heap.size) (.tmp 12) (.tmp 13) _ rfl rfl i0 _ Try.underlying25 HI.out HZ0.out HZ1.out HZ2.out rfl _ (numN l.length) l rfl rfl HN.out HB1.out (by omega) z1 ?_; intro v2 w2 hown2 hb2; have HO2 := Lib.hid hown2; have HB2 := Lib.hid (G1.out.trans hb2); clear hown2 hb2)
  go_ret2
  exact ⟨_, rfl, by rw [List.length_append]; exact HO2.out, HB2.out⟩
end Codec
end Go.Proofs.Ytmojbamloanleaa
namespace Go.Proofs.Ytmojbamloanleaa
open Go.RowKit
set_option maxRecDepth 100000
namespace Codec
theorem takeN_bd {l : List Int} (h : Rng l) : (0 ≤ (takeN l).1 ∧ (takeN l).1 ≤ 18446744073709551615) ∧ (0 ≤ (takeN l).2.1 ∧ (takeN l).2.1 ≤ l.length) ∧ (0 ≤ (takeN l).2.2 ∧ (takeN l).2.2 ≤ 11) := by
  cases hf : (l.take 10).findIdx? (fun x => decide (x < 128)) with
  | none =>
    have e : takeN l = if l.length < 10 then (0, 0, 10) else (0, 0, 11) := by unfold takeN; rw [hf]
    by_cases c : l.length < 10
    · rw [e, if_pos c]; simp
    · rw [e, if_neg c]; simp
  | some e =>
    obtain ⟨he, hp, _⟩ := List.findIdx?_eq_some_iff_getElem.1 hf
    rw [List.length_take] at he
    have hx : l[e]? = some (l[e]'(by omega)) := List.getElem?_eq_getElem (by omega)
    rw [List.getElem_take] at hp
    have hc := h _ (List.getElem_mem (show e < l.length by omega))
    have ee : takeN l = if (0 < e ∧ l.getD e 0 = 0) ∨ (e = 9 ∧ 1 < l.getD 9 0) then (0, 0, 11) else (v128 (l.take (e + 1)), (e : Int) + 1, 0) := by unfold takeN; rw [hf]
    by_cases hb : (0 < e ∧ l.getD e 0 = 0) ∨ (e = 9 ∧ 1 < l.getD 9 0)
    · rw [ee, if_pos hb]; simp
    · have hg : e = 9 → l.getD 9 0 = l[e]'(by omega) := by
        intro h9
        subst h9
        rw [List.getD_eq_getElem?_getD, hx]
        rfl
      have hm := v128_max (l := l) (e := e) (by omega) hx hc.1 (by simpa using hp) (fun h9 => by
        have h1 := hg h9
        have h2 : ¬ 1 < l.getD 9 0 := fun h3 => hb (.inr ⟨h9, h3⟩)
        omega)
      have hr := v128_rng (l.take (e + 1))
      rw [ee, if_neg hb]
      exact ⟨⟨hr.1, hm⟩, ⟨by simp only; omega, by simp only; omega⟩, by simp⟩
def lenF (l : List Int) (more : Int) : Int × Int × Int :=
  if (takeN l).2.2 ≠ 0 then (0, 0, (takeN l).2.2) else if 2097152 < (takeN l).1 then (0, 0, 12) else if (l.length : Int) - (takeN l).2.1 - more < (takeN l).1 then (0, 0, 10) else ((takeN l).1, (takeN l).2.1, 0)
set_option maxRecDepth 100000 in
set_option maxHeartbeats 1000000 in
theorem length_any (v : Value) (l : List Int) (more : Int) (w : World) (h : IsB w v l) (hmo : 0 ≤ more ∧ more ≤ 16) :
    Calls Try.prog 72 #[v, .int .i64 more] w fun e w' => e = .returned (.tuple #[.int .i64 (lenF l more).1, .int .i64 (lenF l more).2.1, .int .i64 (lenF l more).2.2]) ∧ w = w' := by
  have hm := h.max
  have hbd := takeN_bd h.rng
  have HT := Lib.hid (takeNumber_any v l w h)
  obtain ⟨ao, cap, rfl, _, _, _⟩ := h.form
  have hF : lenF l more = if (takeN l).2.2 ≠ 0 then (0, 0, (takeN l).2.2) else if 2097152 < (takeN l).1 then (0, 0, 12) else if (l.length : Int) - (takeN l).2.1 - more < (takeN l).1 then (0, 0, 10) else ((takeN l).1, (takeN l).2.1, 0) := rfl
  generalize lenF l more = F at hF ⊢
  generalize takeN l = t at HT hF hbd
  obtain ⟨t1, t2, t3⟩ := t
  simp only at HT hF hbd
  obtain ⟨⟨b1, b2⟩, ⟨b3, b4⟩, b5, b6⟩ := hbd
  clear h
  by_cases h3 : t3 = 0
  · subst h3
    by_cases h1 : 2097152 < t1
    · have e : F = (0, 0, 12) := by rw [hF, if_neg (by simp), if_pos h1]
      subst e
      clear hF
      go_enter Try.func72, Try.ntmps72
      go_wp2_with fail
      refine HT.out.mono ?_
      rintro e w1 ⟨rfl, rfl⟩
      go_wp2_with fail
      go_ret3
      exact ⟨rfl, rfl⟩
    · by_cases h2 : (l.length : Int) - t2 - more < t1
      · have e : F = (0, 0, 10) := by rw [hF, if_neg (by simp), if_neg h1, if_pos h2]
        subst e
        clear hF
        have q : decide ((l.length : Int) - t2 - more < t1) = true := by simp; omega
        go_enter Try.func72, Try.ntmps72
        go_wp2_with fail
        refine HT.out.mono ?_
        rintro e w1 ⟨rfl, rfl⟩
        go_wp2_with fail
        go_ret3
        exact ⟨rfl, rfl⟩
      · have e : F = (t1, t2, 0) := by rw [hF, if_neg (by simp), if_neg h1, if_neg h2]
        subst e
        clear hF
        have q : decide ((l.length : Int) - t2 - more < t1) = false := by simp; omega
        go_enter Try.func72, Try.ntmps72
        go_wp2_with fail
        refine HT.out.mono ?_
        rintro e w1 ⟨rfl, rfl⟩
        go_wp2_with fail
        go_ret3
        exact ⟨rfl, rfl⟩
  · have e : F = (0, 0, t3) := by rw [hF, if_pos h3]
    subst e
    have q : (t3 != 0) = true := by simp [h3]
    clear hF h3
    go_enter Try.func72, Try.ntmps72
    go_wp2_with fail
    refine HT.out.mono ?_
    rintro e w1 ⟨rfl, rfl⟩
    go_wp2_with fail
    go_ret3
    exact ⟨rfl, rfl⟩
end Codec
end Go.Proofs.Ytmojbamloanleaa
namespace Go.Proofs.Ytmojbamloanleaa
open Go.RowKit
set_option maxRecDepth 100000
namespace Codec
theorem clone_any' (ao : Option Addr) (n cap : Nat) (l : List Int) (w : World) (h : IsB w (.slice ao n cap) l) (hl : l.length ≤ 140737488355328) :
    Calls Try.prog 39 #[.slice ao n cap] w (ClonePost l w) := by
  have hn : n = l.length := by
    obtain ⟨_, _, _, h1, _⟩ := h
    simp only [Value.slice.injEq] at h1
    exact h1.2.1
  subst hn
  exact clone_any ao cap l w h hl
def takeTextF (l : List Int) : List Int × Int × Int :=
  if (lenF l 0).2.2 ≠ 0 then ([], 0, (lenF l 0).2.2) else ((l.drop (lenF l 0).2.1.toNat).take (lenF l 0).1.toNat, (lenF l 0).2.1 + (lenF l 0).1, 0)
theorem lenF_bd {l : List Int} (h : Rng l) (more : Int) (hm : 0 ≤ more) : 0 ≤ (lenF l more).2.2 ∧ (lenF l more).2.2 ≤ 12 ∧ ((lenF l more).2.2 = 0 → 0 ≤ (lenF l more).1 ∧ (lenF l more).1 ≤ 2097152 ∧ 0 ≤ (lenF l more).2.1 ∧ (lenF l more).2.1 + more + (lenF l more).1 ≤ l.length) := by
  have hb := takeN_bd h
  have e : lenF l more = if (takeN l).2.2 ≠ 0 then (0, 0, (takeN l).2.2) else if 2097152 < (takeN l).1 then (0, 0, 12) else if (l.length : Int) - (takeN l).2.1 - more < (takeN l).1 then (0, 0, 10) else ((takeN l).1, (takeN l).2.1, 0) := rfl
  by_cases h1 : (takeN l).2.2 ≠ 0
  · rw [if_pos h1] at e; rw [e]; simp only; omega
  · rw [if_neg h1] at e
    by_cases h2 : 2097152 < (takeN l).1
    · rw [if_pos h2] at e; rw [e]; simp
    · rw [if_neg h2] at e
      by_cases h3 : (l.length : Int) - (takeN l).2.1 - more < (takeN l).1
      · rw [if_pos h3] at e; rw [e]; simp
      · rw [if_neg h3] at e; rw [e]; simp only; omega
def TTPost (l : List Int) (w : World) (e : Ending) (w' : World) : Prop :=
  ∃ v, e = .returned (.tuple #[v, .int .i64 (takeTextF l).2.1, .int .i64 (takeTextF l).2.2]) ∧ OwnS w' w.heap.size 5 v (takeTextF l).1 ∧ Below w.heap.size w w'
end Codec
end Go.Proofs.Ytmojbamloanleaa
namespace Go.Proofs.Ytmojbamloanleaa
open Go.RowKit
set_option maxRecDepth 100000
namespace Codec
end Codec
end Go.Proofs.Ytmojbamloanleaa
