/- codec: Compare of both; spoil. -/
import Derived.Test.YtlolgiphppbcmaaDoorBytesFn
namespace Go.Proofs.YtlolgiphppbcmaaDoor
open Go.RowKit
namespace Codec
set_option maxHeartbeats 400000 in
theorem ccompare_any (v u : Value) (l m : List Int) (w : World) (h : IsB w v l) (k : IsB w u m) :
    Calls Tryd.prog 8 #[v, u] w fun e w' => e = .returned (.int .i64 (cmpB l m)) ∧ w = w' := by
  have HC := Lib.hid (bcompare_any v u l m w h k)
  clear h k
  go_enter Tryd.func8, Tryd.ntmps8
  go_wp2_with fail
  refine HC.out.mono ?_
  rintro e w1 ⟨rfl, rfl⟩
  go_wp2_with fail
  go_ret
  exact ⟨rfl, rfl⟩
theorem cmpB_step {l m : List Int} {k : Nat} {x y : Int} (hx : l[k]? = some x) (hy : m[k]? = some y) : cmpB (l.drop k) (m.drop k) = if x < y then -1 else if y < x then 1 else cmpB (l.drop (k + 1)) (m.drop (k + 1)) := by
  obtain ⟨h1, h2⟩ := List.getElem?_eq_some_iff.1 hx
  obtain ⟨h3, h4⟩ := List.getElem?_eq_some_iff.1 hy
  rw [List.drop_eq_getElem_cons h1, List.drop_eq_getElem_cons h3, h2, h4]
  rfl
theorem cmpB_end {l m : List Int} {k : Nat} (h : k ≤ l.length) (h' : k ≤ m.length) (he : k = l.length ∨ k = m.length) : cmpB (l.drop k) (m.drop k) = if l.length = m.length then 0 else if l.length < m.length then -1 else 1 := by
  rcases he with he | he
  · rw [List.drop_of_length_le (l := l) (by omega)]
    by_cases hm : k = m.length
    · rw [List.drop_of_length_le (l := m) (by omega), if_pos (by omega)]; rfl
    · rw [List.drop_eq_getElem_cons (show k < m.length by omega), if_neg (by omega), if_pos (by omega)]; rfl
  · rw [List.drop_of_length_le (l := m) (by omega)]
    by_cases hm : k = l.length
    · rw [List.drop_of_length_le (l := l) (by omega), if_pos (by omega)]; rfl
    · rw [List.drop_eq_getElem_cons (show k < l.length by omega), if_neg (by omega), if_neg (by omega)]; rfl
set_option maxRecDepth 100000 in
set_option maxHeartbeats 1000000 in
theorem rCompare_any (v u : Value) (l m : List Int) (w : World) (h : IsB w v l) (k : IsB w u m) :
    Calls Tryd.prog 10 #[v, u] w (Ret (.int .i64 (cmpB l m)) w) := by
  have hm := h.max
  have hm2 := k.max
  obtain ⟨ao, cap, rfl, hnc, _, _⟩ := h.form
  obtain ⟨bo, bcap, rfl, hbc, _, _⟩ := k.form
  have HL := Lib.hid h
  have HM := Lib.hid k
  clear h k
  go_enter Tryd.func10, Tryd.ntmps10
  go_wp2_with fail
  go_loopw [5] (fun i wr => ∃ k : Nat, k ≤ l.length ∧ k ≤ m.length ∧ i = .int .i64 k ∧ Hid (cmpB l m = cmpB (l.drop k) (m.drop k)) ∧ Hid (Below w.heap.size w wr)) (fun i _ => l.length - (intOf i).toNat)
  case atStart => exact ⟨0, by omega, by omega, rfl, rfl, Below.refl _ _⟩
  case round =>
    obtain ⟨k, hk1, hk2, rfl, hc, hbel⟩ := hrel
    by_cases hlt : k < l.length ∧ k < m.length
    · obtain ⟨h1, h2⟩ := hlt
      obtain ⟨b, o, x, rfl, hbb, hx, hxc, hx1, hx2⟩ := (HL.out.below hbel.out).at_ (k := k) h1
      obtain ⟨b2, o2, y, rfl, hbb2, hy, hyc, hy1, hy2⟩ := (HM.out.below hbel.out).at_ (k := k) h2
      have HS := Lib.hid (hc.out.trans (cmpB_step hx.out hy.out))
      have q1 : decide (k < l.length) = true := by simp; omega
      have q2 : decide (k < m.length) = true := by simp; omega
      by_cases hxy : x = y
      · have e1 : (x != y) = false := by simp [hxy]
        have HE : cmpB l m = cmpB (l.drop (k + 1)) (m.drop (k + 1)) := by rw [HS.out, if_neg (by omega), if_neg (by omega)]
        have HE := Lib.hid HE
        clear hxy
        go_wp2_with fail
        go_quiet (fail)
        go_wp2_with fail
        go_roundw
        case rel => exact ⟨k + 1, by omega, by omega, by go_num, HE.out, Lib.hid (below_drewN hbel.out _)⟩
        case measure => simp [intOf]; omega
      · have e1 : (x != y) = true := by simp [hxy]
        by_cases hlt : x < y
        · have HE := Lib.hid (HS.out.trans (if_pos hlt))
          clear hxy
          go_wp2_with fail
          go_quiet (fail)
          go_wp2_with fail
          go_quiet (fail)
          go_wp2_with fail
          go_ret
          exact ⟨by rw [HE.out]; rfl, by exact below_drewN (below_drewN hbel.out _) _⟩
        · have HE := Lib.hid (HS.out.trans ((if_neg hlt).trans (if_pos (by omega))))
          have e2 : decide (x < y) = false := by simp; omega
          clear hxy hlt
          go_wp2_with fail
          go_quiet (fail)
          go_wp2_with fail
          go_quiet (fail)
          go_wp2_with fail
          go_ret
          exact ⟨by rw [HE.out]; rfl, by exact below_drewN (below_drewN hbel.out _) _⟩
    · have HE := Lib.hid (hc.out.trans (cmpB_end hk1 hk2 (by omega)))
      by_cases a : k < l.length
      · have q1 : decide (k < l.length) = true := by simp; omega
        have q2 : decide (k < m.length) = false := by simp; omega
        have q3 : (l.length == m.length) = false := beq_eq_false_iff_ne.2 (by omega)
        have q4 : ((l.length : Int) == (m.length : Int)) = false := beq_eq_false_iff_ne.2 (by omega)
        have q5 : decide (l.length < m.length) = false := by simp; omega
        have HE := Lib.hid (HE.out.trans ((if_neg (by omega)).trans (if_neg (by omega))))
        have b1 : k = m.length := by omega
        have b2 : m.length < l.length := by omega
        have B1 := Lib.hid b1
        clear b1 hlt a
        go_wp2_with fail
        go_ret
        exact ⟨by rw [HE.out]; rfl, hbel.out⟩
      · have q1 : decide (k < l.length) = false := by simp; omega
        by_cases c : l.length = m.length
        · have q3 : (l.length == m.length) = true := by rw [beq_iff_eq]; exact c
          have q4 : ((l.length : Int) == (m.length : Int)) = true := by rw [beq_iff_eq]; omega
          have HE := Lib.hid (HE.out.trans (if_pos c))
          clear c hlt a
          go_wp2_with fail
          go_ret
          exact ⟨by rw [HE.out]; rfl, hbel.out⟩
        · have q3 : (l.length == m.length) = false := beq_eq_false_iff_ne.2 (by omega)
          have q4 : ((l.length : Int) == (m.length : Int)) = false := beq_eq_false_iff_ne.2 (by omega)
          have q5 : decide (l.length < m.length) = true := by simp; omega
          have HE := Lib.hid (HE.out.trans ((if_neg c).trans (if_pos (by omega))))
          clear c hlt a
          go_wp2_with fail
          go_ret
          exact ⟨by rw [HE.out]; rfl, hbel.out⟩
/-- what spoil leaves of the rest -/
def SpoilPost (v : Value) (n : Nat) (w : World) (e : Ending) (w' : World) : Prop := e = .returned (.int .i64 ((n : Int) + 2)) ∧ w.grownBy w' v.ownBlock
set_option maxHeartbeats 1000000 in
theorem spoil_any (base : Nat) (v : Value) (l : List Int) (w : World) (h : OwnS w base 5 v l) (hl : l.length ≤ 140737488355320) :
    Calls Tryd.prog 17 #[v] w (SpoilPost v l.length w) := by
  obtain ⟨i0, hi0, hz0, hz1, hz2⟩ := info_parts infoU8
  have HI := Lib.hid hi0; have HZ0 := Lib.hid hz0; have HZ1 := Lib.hid hz1; have HZ2 := Lib.hid hz2
  clear hi0 hz0 hz1 hz2
  obtain ⟨ao, cap, rfl, hnc, hcap, _, _⟩ := h.form
  have HO := Lib.hid h
  clear h
  go_enter Tryd.func17, Tryd.ntmps17
  go_wp2_with fail
  go_loopw [3] (fun i wr => ∃ (k : Nat) (m : List Int), k ≤ l.length ∧ i = .int .i64 k ∧ Hid (m.length = l.length ∧ OwnS wr base 5 (.slice ao l.length cap) m) ∧ Hid (w.grownBy wr (Value.slice ao l.length cap).ownBlock)) (fun i _ => l.length - (intOf i).toNat)
  case atStart => exact ⟨0, l, by omega, rfl, ⟨rfl, HO.out⟩, gb_refl _ _⟩
  case round =>
    obtain ⟨k, m, hk, rfl, hown, hgr⟩ := hrel
    by_cases hlt : k < l.length
    · obtain ⟨g, x, rfl, hg1, hg2, hx, hc, hf⟩ := hown.out.2.at_ (k := k) (by rw [hown.out.1]; exact hlt)
      go_wp2_with fail
      go_roundw
      case rel =>
        obtain ⟨hml, hom⟩ := hown.out
        have st := OwnS.stored (k := k) (x := 77) (l := m) (cap := cap) (by rw [hml]; exact hom) (by omega) (by omega)
        rw [hml] at st
        exact ⟨k + 1, m.set k 77, by omega, by go_num, Lib.hid ⟨by simp [hml], st⟩, Lib.hid (gb_set (p := ⟨g, k, none⟩) hgr.out (.inl rfl) _)⟩
      case measure => simp [intOf]; omega
    · have hkp : k = l.length := by omega
      subst hkp
      obtain ⟨hml, hom⟩ := hown.out
      have hom2 : OwnS wr base 5 (.slice ao m.length cap) m := by rw [hml]; exact hom
      have HOM := Lib.hid hom2
      have hml2 : m.length ≤ 140737488355320 := by omega
      have HML := Lib.hid hml
      have HGR := Lib.hid hgr.out
      clear hml hom hom2 hown hgr
      go_wp2_with (at_builtin; refine wpList_append_loose (w := wr) (.tmp 13) (.tmp 14) _ rfl rfl i0 Tryd.underlying23 HI.out HZ0.out HZ1.out HZ2.out (.int .u8 78) (.int .u8 79) (by rw [HML.out]; rfl) rfl HOM.out rfl rfl hml2 ?_; intro bo bcap w2 hb1 hb2 hg2; have HG := Lib.hid hg2; clear hg2)
      go_ret
      refine ⟨?_, ?_⟩
      · show Ending.returned (.int .i64 ((m.length : Int) + 2)) = .returned (.int .i64 ((l.length : Int) + 2))
        rw [HML.out]
      · have h1 := HGR.out
        have h2 := HG.out
        cases ao
        · exact World.grownBy.trans h1 h2
        · exact World.grownBy.trans h1 h2
end Codec
end Go.Proofs.YtlolgiphppbcmaaDoor
