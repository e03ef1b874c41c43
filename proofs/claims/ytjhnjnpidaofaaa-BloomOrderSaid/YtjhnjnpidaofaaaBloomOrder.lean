/- The walk of BloomOrder. -/
import Derived.Test.YtjhnjnpidaofaaaBloomHold
import Derived.Test.YtjhnjnpidaofaaaRead
namespace Go.Proofs.Ytjhnjnpidaofaaa
open Go.RowKit
namespace Bloom
theorem or_comm8 (x a b : Int) : bits .or .u8 (bits .or .u8 x a) b = bits .or .u8 (bits .or .u8 x b) a := by
  have h : ∀ y c, bits .or .u8 y c = ((BitVec.ofInt 8 y ||| BitVec.ofInt 8 c).toNat : Int) := fun y c => by
    unfold bits
    simp only
    have hk : IntKind.u8.bits = 8 := rfl
    rw [hk, wrap_u8 _ (BitVec.isLt _)]
  rw [h (bits .or .u8 x a), h (bits .or .u8 x b), ofInt_or, ofInt_or, BitVec.or_assoc, BitVec.or_comm (BitVec.ofInt 8 a), ← BitVec.or_assoc]
theorem setBit_comm (f : List Int) (a b : Int) : setBit (setBit f a) b = setBit (setBit f b) a := by
  unfold setBit
  by_cases e : atF a = atF b
  · rw [e]
    rcases Nat.lt_or_ge (atF b) f.length with hl | hl
    · have h1 : ∀ z, (f.set (atF b) z).getD (atF b) 0 = z := fun z => by simp [List.getD, hl]
      rw [h1, h1, List.set_set, List.set_set, or_comm8]
    · have h1 : ∀ z, f.set (atF b) z = f := fun z => List.set_eq_of_length_le hl
      rw [h1, h1]
      simp only [h1]
  · have h1 : ∀ z, (f.set (atF a) z).getD (atF b) 0 = f.getD (atF b) 0 := fun z => by simp [List.getD, List.getElem?_set_ne e]
    have h2 : ∀ z, (f.set (atF b) z).getD (atF a) 0 = f.getD (atF a) 0 := fun z => by simp [List.getD, List.getElem?_set_ne (Ne.symm e)]
    rw [h1, h2, List.set_comm _ _ e]
theorem setAll_setBit (f l : List Int) (m a : Int) : ∀ k, setAll (setBit f a) l m k = setBit (setAll f l m k) a
  | 0 => rfl
  | k + 1 => by show setBit (setAll (setBit f a) l m k) _ = setBit (setBit (setAll f l m k) _) a; rw [setAll_setBit f l m a k, setBit_comm]
theorem setAll_comm (f l l' : List Int) (m : Int) (p : Nat) : ∀ k, setAll (setAll f l m p) l' m k = setAll (setAll f l' m k) l m p
  | 0 => rfl
  | k + 1 => by
    show setBit (setAll (setAll f l m p) l' m k) _ = setAll (setBit (setAll f l' m k) _) l m p
    rw [setAll_comm f l l' m p k, setAll_setBit]
theorem makeF_perm {ls ls' : List (List Int)} (h : ls.Perm ls') (q : Int) : makeF ls q = makeF ls' q := by
  unfold makeF fill
  rw [h.length_eq]
  exact h.foldl_eq' (fun x _ y _ z => setAll_comm z x y _ _ _) _
theorem filt_perm {ls ls' : List (List Int)} (h : ls.Perm ls') (q : Int) : filt ls q = filt ls' q ∧ errF ls q = errF ls' q := by
  have e : okArgs ls q ↔ okArgs ls' q := by unfold okArgs; rw [h.length_eq]
  unfold filt errF
  by_cases k : okArgs ls q
  · rw [if_pos k, if_pos (e.1 k), if_pos k, if_pos (e.1 k), makeF_perm h]; exact ⟨rfl, rfl⟩
  · rw [if_neg k, if_neg (fun c => k (e.2 c)), if_neg k, if_neg (fun c => k (e.2 c))]; exact ⟨rfl, rfl⟩
/-- slices that read as these keys -/
def Sel (w : World) (us : List Value) (ls : List (List Int)) : Prop := us.length = ls.length ∧ ∀ (i : Nat) (u : Value), us[i]? = some u → ∃ l, ls[i]? = some l ∧ IsB w u l ∧ u.oneCell' = true
theorem Sel.append {w : World} {us vs : List Value} {ls ms : List (List Int)} (h : Sel w us ls) (k : Sel w vs ms) : Sel w (us ++ vs) (ls ++ ms) := by
  refine ⟨by simp [h.1, k.1], fun i u hu => ?_⟩
  rcases Nat.lt_or_ge i us.length with hi | hi
  · rw [List.getElem?_append_left hi] at hu
    rw [List.getElem?_append_left (by have := h.1; omega)]
    exact h.2 i u hu
  · rw [List.getElem?_append_right hi] at hu
    rw [List.getElem?_append_right (by have := h.1; omega), ← h.1]
    exact k.2 _ u hu
theorem Sel.take {w : World} {us : List Value} {ls : List (List Int)} (h : Sel w us ls) (n : Nat) : Sel w (us.take n) (ls.take n) := by
  refine ⟨by simp [h.1], fun i u hu => ?_⟩
  have hi : i < n := by
    have := (List.getElem?_eq_some_iff.1 hu).1
    simp at this; omega
  rw [List.getElem?_take_of_lt hi] at hu
  rw [List.getElem?_take_of_lt hi]
  exact h.2 i u hu
theorem Sel.isBB {w w0 : World} {base n : Nat} {e : TypeId} {v : Value} {us : List Value} {ls : List (List Int)} (h : Sel w0 us ls) (hb : Below w0.heap.size w0 w) (ho : w.ownsRow base e 1 v n us) : IsBB w v ls := by
  have hn : us.length = n := own_len ho
  have hl := h.1
  obtain ⟨ao, cap, rfl, k1, k2, k3, k4⟩ := own_form ho
  have e : n = ls.length := by omega
  subst e
  refine ⟨ao, cap, rfl, k1, by unfold maxLen; omega, fun hh => ⟨List.eq_nil_of_length_eq_zero (k3 hh).1, (k3 hh).2⟩, fun a ha hp => ?_⟩
  obtain ⟨q1, q2, q3⟩ := k4 a ha
  refine ⟨by rw [q1], q3, fun i l hi => ?_⟩
  have hil : i < ls.length := (List.getElem?_eq_some_iff.1 hi).1
  obtain ⟨g, x, hg, _, _, hx, hc, _⟩ := own_at ho hil
  obtain ⟨l', hl', hB, _⟩ := h.2 i x hx.out
  rw [hi] at hl'
  cases hl'
  rw [ha] at hg
  cases hg
  exact ⟨x, by simpa using hc, hB.below hb⟩
theorem isB_one {w : World} {u : Value} {l : List Int} (h : IsB w u l) : u.oneCell' = true := by
  obtain ⟨ao, cap, rfl, _⟩ := h.form
  rfl
/-- the values of a [][]byte -/
theorem sel_of_bb {w : World} {ao : Option Addr} {n cap : Nat} {ls : List (List Int)} (h : IsBB w (.slice ao n cap) ls) (hp : 0 < ls.length) :
    ∃ b o us, ao = some ⟨b, o, none⟩ ∧ b < w.heap.size ∧ Sel w us ls ∧ ∀ (i : Nat) u, us[i]? = some u → w.cell? ⟨b, o + i, none⟩ = some u := by
  obtain ⟨b, o, _, _, rfl, hb, _⟩ := h.at_ hp
  have each : ∀ i, i < ls.length → ∃ u : Value, w.cell? ⟨b, o + i, none⟩ = some u ∧ ∃ l, ls[i]? = some l ∧ IsB w u l := by
    intro i hi
    obtain ⟨b', o', u, l, e, _, hx, hc, hB⟩ := h.at_ hi
    cases e
    exact ⟨u, hc, l, hx.out, hB.out⟩
  obtain ⟨us, h1, h2⟩ := list_of ls.length each
  exact ⟨b, o, us, rfl, hb, ⟨h1, fun i u hu => let ⟨_, l, k1, k2⟩ := h2 i u hu; ⟨l, k1, k2, isB_one k2⟩⟩, fun i u hu => (h2 i u hu).1⟩
set_option maxRecDepth 100000 in
set_option maxHeartbeats 4000000 in
theorem order_ok (v : Value) (ls : List (List Int)) (q : Int) (T : Nat) (w : World) (h : IsBB w v ls) (hq : -9223372036854775808 ≤ q ∧ q ≤ 9223372036854775807) (hp : 0 < ls.length) (hT : T ≤ 9223372036854775807) (hn : ls.length ≤ 5864062014634) :
    Calls Try.prog 7 #[v, .int .i64 q, .int .i64 T] w (Ret (.bool true) w) := by
  obtain ⟨ao, cap, rfl, hnc⟩ := h.form
  obtain ⟨b, o, us, rfl, hb, hsel, hcell⟩ := sel_of_bb h hp
  have HB := Lib.hid h
  have HQ := Lib.hid hq
  have HSEL := Lib.hid hsel
  have HCELL := Lib.hid hcell
  obtain ⟨k, hk⟩ : ∃ k, T % ls.length = k := ⟨_, rfl⟩
  have hkn : k < ls.length := by rw [← hk]; exact Nat.mod_lt _ hp
  have hkI : (T : Int) % (ls.length : Int) = k := by rw [← hk]; exact (Int.natCast_emod T ls.length).symm
  have HK := Lib.hid hkI
  have hz : (ls.length == 0) = false := beq_eq_false_iff_ne.2 (by omega)
  have hz' : ((ls.length : Int) == 0) = false := beq_eq_false_iff_ne.2 (by omega)
  clear h hq hsel hcell hk hkI
  obtain ⟨i1, hi0, hz0, hz1, hz2⟩ := info_parts infoB
  have HI' := Lib.hid hi0; have HZ0' := Lib.hid hz0; have HZ1' := Lib.hid hz1; have HZ2' := Lib.hid hz2
  clear hi0 hz0 hz1 hz2
  go_enter Try.func7, Try.ntmps7
  go_wp2_with fail
  refine (shown_any _).mono ?_
  rintro e w1 ⟨rfl, g1⟩
  have G1 := Lib.hid g1; have z1 := g1.size
  clear g1
  go_wp2_with fail
  rw [HK.out]
  go_loopw [9, 10] (fun out i wr => ∃ (j : Nat) (vs : List Value), k ≤ j ∧ j < ls.length ∧ i = .int .i64 j ∧ Hid (wr.ownsRow w1.heap.size 22 1 out (ls.length - 1 - j) vs) ∧ Hid (Sel w vs (ls.drop (j + 1)).reverse) ∧ Hid (Below w1.heap.size w1 wr)) (fun _ i _ => (intOf i).toNat)
  case atStart => exact ⟨ls.length - 1, [], by omega, by omega, by congr 1; omega, Lib.hid (by rw [Nat.sub_self]; exact World.ownsRow_nil _ _ _ _), Lib.hid (by rw [show ls.length - 1 + 1 = ls.length from by omega, List.drop_length]; exact ⟨rfl, fun i u hu => by simp at hu⟩), Lib.hid (Below.refl _ _)⟩
  case round =>
    obtain ⟨j, vs, hkj, hjn, rfl, hown, hs, hbel⟩ := hrel
    by_cases hlt : k < j
    · have hul : us.length = ls.length := HSEL.out.1
      have hus : us[j]? = some (us[j]'(by omega)) := List.getElem?_eq_getElem (by omega)
      obtain ⟨u, hu⟩ : ∃ u, us[j]'(by omega) = u := ⟨_, rfl⟩
      rw [hu] at hus
      clear hu
      obtain ⟨l, hl, hB, h1⟩ := HSEL.out.2 j u hus
      have hcu := (bel_call G1.out hbel.out).cell (p := ⟨b, o + j, none⟩) hb
      rw [HCELL.out j u hus] at hcu
      have HU := Lib.hid hus
      have HL := Lib.hid hl
      have HB1 := Lib.hid hB
      have H1 := Lib.hid h1
      obtain ⟨uo, ucap, rfl, _, _, _⟩ := hB.form
      clear hul hus hl hB h1
      go_wp2_with (at_builtin; refine wpList_append_one (w := wr) (base := w1.heap.size) (.tmp 36) (.tmp 41) _ rfl rfl i1 _ 24 Try.underlying27 HI'.out HZ0'.out HZ1'.out HZ2'.out rfl (.slice uo l.length ucap) rfl rfl hown.out H1.out (by omega) (by omega) hbel.out.size ?_; intro v2 w2 hown2 hb2; have HO2 := Lib.hid hown2; have HB2 := Lib.hid hb2; clear hown2 hb2)
      go_roundw
      case rel =>
        have hd : (ls.drop (j - 1 + 1)).reverse = (ls.drop (j + 1)).reverse ++ [l] := by
          rw [show j - 1 + 1 = j from by omega]
          have := (List.getElem?_eq_some_iff.1 HL.out)
          obtain ⟨h1, h2⟩ := this
          rw [List.drop_eq_getElem_cons h1, List.reverse_cons, h2]
        refine ⟨j - 1, vs ++ [.slice uo l.length ucap], by omega, by omega, by congr 1; omega, Lib.hid ?_, Lib.hid ?_, Lib.hid (hbel.out.trans HB2.out)⟩
        · rw [show ls.length - 1 - (j - 1) = ls.length - 1 - j + 1 from by omega]; exact HO2.out
        · rw [hd]
          exact hs.out.append ⟨rfl, fun i x hx => by
            match i, hx with
            | 0, hx => cases hx; exact ⟨l, rfl, HB1.out, H1.out⟩⟩
      case measure => simp [intOf]; omega
    · have hjk : j = k := by omega
      subst hjk
      have hul : us.length = ls.length := HSEL.out.1
      have hsel2 : Sel w (us.take (j + 1)) (ls.take (j + 1)) := HSEL.out.take _
      have hlen2 : (us.take (j + 1)).length = (j + 1) * 1 := by rw [List.length_take]; omega
      have hnews : ∀ (i : Nat) u, (us.take (j + 1))[i]? = some u → wr.cell? ((⟨b, o, none⟩ : Addr).add i) = some u := by
        intro i u hu
        have hi : i < j + 1 := by
          have := (List.getElem?_eq_some_iff.1 hu).1
          simp at this; omega
        rw [List.getElem?_take_of_lt hi] at hu
        rw [plain_add', (bel_call G1.out hbel.out).cell (p := ⟨b, o + i, none⟩) hb]
        exact HCELL.out i u hu
      have hone : ∀ u ∈ us.take (j + 1), u.oneCell' = true := by
        intro u hu
        obtain ⟨i, hi⟩ := List.mem_iff_getElem?.1 hu
        obtain ⟨_, _, _, k⟩ := hsel2.2 i u hi
        exact k
      have hperm : ((ls.drop (j + 1)).reverse ++ ls.take (j + 1)).Perm ls := by
        refine ((List.reverse_perm _).append_right _).trans ?_
        refine (List.perm_append_comm).trans ?_
        rw [List.take_append_drop]
      have HS2 := Lib.hid hsel2; have HL2 := Lib.hid hlen2; have HN := Lib.hid hnews; have HO1 := Lib.hid hone
      have HF := Lib.hid (filt_perm hperm q)
      clear hul hsel2 hlen2 hnews hone hperm
      have zr := hbel.out.size
      go_wp2_with (at_builtin; refine wpList_append_own wr rfl (.tmp 43) (.tmp 47) _ rfl w1.heap.size 22 i1 (.slice none 0 0) 1 24 Try.underlying27 HI'.out HZ0'.out HZ1'.out HZ2'.out rfl (by decide) _ (ls.length - 1 - j) vs rfl hown.out ⟨b, o, none⟩ (j + 1) cap (us.take (j + 1)) rfl HL2.out HN.out HO1.out (by unfold maxLen; omega) (by omega) zr ?_; intro v2 w2 hown2 hg2 _; have HO2 := Lib.hid hown2; have HG2 := Lib.hid (bel_own hbel.out hg2 hown.out); clear hown2 hg2)
      have z2 := HG2.out.size
      have B2 := Lib.hid ((hs.out.append HS2.out).isBB (bel_call G1.out HG2.out) HO2.out)
      refine (make_any _ ls q w2 (HB.out.below (bel_call G1.out HG2.out)) HQ.out).mono ?_
      unfold MakeAny
      rintro e w3 ⟨f1, rfl, ho3, g3⟩
      have HO3 := Lib.hid ho3
      have G3 := Lib.hid g3
      clear ho3 g3
      go_wp2_with fail
      refine (make_any v2 _ q w3 (B2.out.below G3.out) HQ.out).mono ?_
      unfold MakeAny
      rintro e w4 ⟨f2, rfl, ho4, g4⟩
      have e1 := HF.out.1
      have e2 := HF.out.2
      rw [e1] at ho4
      rw [e2]
      have c1 := (IsB.of_own (own_below HO3.out g4) (filt_rng ls q)).conv Try.underlying22 Try.underlying5 Try.underlying9
      have c2 := (IsB.of_own ho4 (filt_rng ls q)).conv Try.underlying22 Try.underlying5 Try.underlying9
      have GG := Lib.hid (bel_call (bel_call (bel_call G1.out HG2.out) G3.out) g4)
      clear ho4 g4 e1 e2
      go_wp2_with fail
      go_ret
      exact ⟨rfl, GG.out⟩
set_option maxHeartbeats 400000 in
theorem order_no (v : Value) (ls : List (List Int)) (q t : Int) (w : World) (h : IsBB w v ls) (hb : ls.length = 0 ∨ t < 0) :
    Calls Try.prog 7 #[v, .int .i64 q, .int .i64 t] w (Ret (.bool true) w) := by
  obtain ⟨ao, cap, rfl, hnc⟩ := h.form
  clear h
  obtain ⟨n, hn⟩ : ∃ n, ls.length = n := ⟨_, rfl⟩
  rw [hn] at hb hnc ⊢
  clear hn
  by_cases hz : n = 0
  · subst hz
    go_enter Try.func7, Try.ntmps7
    go_wp2_with fail
    refine (shown_any _).mono ?_
    rintro e w1 ⟨rfl, g1⟩
    have G1 := Lib.hid g1
    clear g1
    go_wp2_with fail
    go_ret
    exact ⟨rfl, G1.out⟩
  · have h1 : (n == 0) = false := beq_eq_false_iff_ne.2 (by omega)
    have h1' : ((n : Int) == 0) = false := beq_eq_false_iff_ne.2 (by omega)
    have h2 : decide (t < 0) = true := by simp; omega
    clear hz hb
    go_enter Try.func7, Try.ntmps7
    go_wp2_with fail
    refine (shown_any _).mono ?_
    rintro e w1 ⟨rfl, g1⟩
    have G1 := Lib.hid g1
    clear g1
    go_wp2_with fail
    go_ret
    exact ⟨rfl, G1.out⟩
theorem order_walk (v : Value) (ls : List (List Int)) (q t : Int) (w : World) (h : IsBB w v ls) (hq : -9223372036854775808 ≤ q ∧ q ≤ 9223372036854775807) (ht : -9223372036854775808 ≤ t ∧ t ≤ 9223372036854775807) (hn : ls.length ≤ 5864062014634) :
    Calls Try.prog 7 #[v, .int .i64 q, .int .i64 t] w (Ret (.bool true) w) := by
  by_cases hb : ls.length = 0 ∨ t < 0
  · exact order_no v ls q t w h hb
  · obtain ⟨T, rfl⟩ := Int.eq_ofNat_of_zero_le (show 0 ≤ t by omega)
    exact order_ok v ls q T w h hq (by omega) (by omega) hn
end Bloom
end Go.Proofs.Ytjhnjnpidaofaaa
