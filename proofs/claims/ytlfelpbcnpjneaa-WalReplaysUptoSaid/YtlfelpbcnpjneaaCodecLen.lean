/- codec: length, TakeText of both. -/
import Derived.Test.YtlfelpbcnpjneaaCodecTx
namespace Go.Proofs.Ytlfelpbcnpjneaa
open Go.RowKit
namespace Codec
theorem takeN_bd {l : List Int} (h : Rng l) : (0 ≤ (takeN l).1 ∧ (takeN l).1 ≤ 18446744073709551615) ∧ (0 ≤ (takeN l).2.1 ∧ (takeN l).2.1 ≤ l.length) ∧ (0 ≤ (takeN l).2.2 ∧ (takeN l).2.2 ≤ 11) := by
  cases hf : (l.take 10).findIdx? (fun x => decide (x < 128)) with
  | none =>
    have e : takeN l = if l.length < 10 then (0, 0, 10) else (0, 0, 11) := by unfold takeN; rw [hf]
    by_cases c : l.length < 10
    · rw [e, if_pos c]; simp
    · rw [e, if_neg c]; simp
  | some e =>
    obtain ⟨he, hp, _⟩ := List.findIdx?_eq_some_iff_getElem.1 hf
    rw [List.length_take] at he
    have hx : l[e]? = some (l[e]'(by omega)) := List.getElem?_eq_getElem (by omega)
    rw [List.getElem_take] at hp
    have hc := h _ (List.getElem_mem (show e < l.length by omega))
    have ee : takeN l = if (0 < e ∧ l.getD e 0 = 0) ∨ (e = 9 ∧ 1 < l.getD 9 0) then (0, 0, 11) else (v128 (l.take (e + 1)), (e : Int) + 1, 0) := by unfold takeN; rw [hf]
    by_cases hb : (0 < e ∧ l.getD e 0 = 0) ∨ (e = 9 ∧ 1 < l.getD 9 0)
    · rw [ee, if_pos hb]; simp
    · have hg : e = 9 → l.getD 9 0 = l[e]'(by omega) := by
        intro h9
        subst h9
        rw [List.getD_eq_getElem?_getD, hx]
        rfl
      have hm := v128_max (l := l) (e := e) (by omega) hx hc.1 (by simpa using hp) (fun h9 => by
        have h1 := hg h9
        have h2 : ¬ 1 < l.getD 9 0 := fun h3 => hb (.inr ⟨h9, h3⟩)
        omega)
      have hr := v128_rng (l.take (e + 1))
      rw [ee, if_neg hb]
      exact ⟨⟨hr.1, hm⟩, ⟨by simp only; omega, by simp only; omega⟩, by simp⟩
def lenF (l : List Int) (more : Int) : Int × Int × Int :=
  if (takeN l).2.2 ≠ 0 then (0, 0, (takeN l).2.2) else if 2097152 < (takeN l).1 then (0, 0, 12) else if (l.length : Int) - (takeN l).2.1 - more < (takeN l).1 then (0, 0, 10) else ((takeN l).1, (takeN l).2.1, 0)
set_option maxRecDepth 100000 in
set_option maxHeartbeats 1000000 in
theorem length_any (v : Value) (l : List Int) (more : Int) (w : World) (h : IsB w v l) (hmo : 0 ≤ more ∧ more ≤ 16) :
    Calls Try.prog 37 #[v, .int .i64 more] w fun e w' => e = .returned (.tuple #[.int .i64 (lenF l more).1, .int .i64 (lenF l more).2.1, .int .i64 (lenF l more).2.2]) ∧ w = w' := by
  have hm := h.max
  have hbd := takeN_bd h.rng
  have HT := Lib.hid (takeNumber_any v l w h)
  obtain ⟨ao, cap, rfl, _, _, _⟩ := h.form
  have hF : lenF l more = if (takeN l).2.2 ≠ 0 then (0, 0, (takeN l).2.2) else if 2097152 < (takeN l).1 then (0, 0, 12) else if (l.length : Int) - (takeN l).2.1 - more < (takeN l).1 then (0, 0, 10) else ((takeN l).1, (takeN l).2.1, 0) := rfl
  generalize lenF l more = F at hF ⊢
  generalize takeN l = t at HT hF hbd
  obtain ⟨t1, t2, t3⟩ := t
  simp only at HT hF hbd
  obtain ⟨⟨b1, b2⟩, ⟨b3, b4⟩, b5, b6⟩ := hbd
  clear h
  by_cases h3 : t3 = 0
  · subst h3
    by_cases h1 : 2097152 < t1
    · have e : F = (0, 0, 12) := by rw [hF, if_neg (by simp), if_pos h1]
      subst e
      clear hF
      go_enter Try.func37, Try.ntmps37
      go_wp2_with fail
      refine HT.out.mono ?_
      rintro e w1 ⟨rfl, rfl⟩
      go_wp2_with fail
      go_ret3
      exact ⟨rfl, rfl⟩
    · by_cases h2 : (l.length : Int) - t2 - more < t1
      · have e : F = (0, 0, 10) := by rw [hF, if_neg (by simp), if_neg h1, if_pos h2]
        subst e
        clear hF
        have q : decide ((l.length : Int) - t2 - more < t1) = true := by simp; omega
        go_enter Try.func37, Try.ntmps37
        go_wp2_with fail
        refine HT.out.mono ?_
        rintro e w1 ⟨rfl, rfl⟩
        go_wp2_with fail
        go_ret3
        exact ⟨rfl, rfl⟩
      · have e : F = (t1, t2, 0) := by rw [hF, if_neg (by simp), if_neg h1, if_neg h2]
        subst e
        clear hF
        have q : decide ((l.length : Int) - t2 - more < t1) = false := by simp; omega
        go_enter Try.func37, Try.ntmps37
        go_wp2_with fail
        refine HT.out.mono ?_
        rintro e w1 ⟨rfl, rfl⟩
        go_wp2_with fail
        go_ret3
        exact ⟨rfl, rfl⟩
  · have e : F = (0, 0, t3) := by rw [hF, if_pos h3]
    subst e
    have q : (t3 != 0) = true := by simp [h3]
    clear hF h3
    go_enter Try.func37, Try.ntmps37
    go_wp2_with fail
    refine HT.out.mono ?_
    rintro e w1 ⟨rfl, rfl⟩
    go_wp2_with fail
    go_ret3
    exact ⟨rfl, rfl⟩
end Codec
end Go.Proofs.Ytlfelpbcnpjneaa
