/- codec: the document's TakeKeyText. -/
import Derived.Test.YtlolgiphppbcmaaCodecXW
namespace Go.Proofs.Ytlolgiphppbcmaa
open Go.RowKit
namespace Codec
theorem tk_zero (l : List Int) (h : (tkL l).2.2 ≠ 0) : tkOn [] 0 (tkL l) = tkL l := tkOn_nil (tkL_err l)
theorem tk_nil : tkL [] = ([], 0, 10) := by rw [tkL]
theorem tk_one (x : Int) : tkL [x] = ([], 0, 10) := by rw [tkL]
theorem tk_cons {x : Int} (hx : x ≠ 0) (r : List Int) : tkL (x :: r) = tkOn [x] 1 (tkL r) := by
  cases r with
  | nil => rw [tk_nil, tk_one]; rfl
  | cons y r =>
    rw [tkL, if_neg hx]
    unfold tkOn
    by_cases h : (tkL (y :: r)).2.2 = 0
    · rw [if_pos h, if_pos h, Int.add_comm]; rfl
    · rw [if_neg h, if_neg h]
theorem tk_end (r : List Int) : tkL (0 :: 1 :: r) = ([], 2, 0) := by rw [tkL, if_pos rfl, if_pos rfl]
theorem tk_ff (r : List Int) : tkL (0 :: 255 :: r) = tkOn [0] 2 (tkL r) := by
  rw [tkL, if_pos rfl, if_neg (by decide), if_pos rfl]
  unfold tkOn
  by_cases h : (tkL r).2.2 = 0
  · rw [if_pos h, if_pos h, Int.add_comm]; rfl
  · rw [if_neg h, if_neg h]
theorem tk_bad {y : Int} (h1 : y ≠ 1) (h2 : y ≠ 255) (r : List Int) : tkL (0 :: y :: r) = ([], 0, 11) := by
  rw [tkL, if_pos rfl, if_neg h1, if_neg h2]
theorem drop_cons {l : List Int} {k : Nat} {x : Int} (h : l[k]? = some x) : l.drop k = x :: l.drop (k + 1) := by
  obtain ⟨hk, rfl⟩ := List.getElem?_eq_some_iff.1 h
  exact List.drop_eq_getElem_cons hk
theorem tk_none {l : List Int} {w w' : World} {t : List Int × Int × Int} {e : Int} (h : tkL l = ([], 0, e)) (hb : Below w.heap.size w w') : TkPost l w (.returned (.tuple #[.slice none 0 0, .int .i64 0, .int .i64 e])) w' :=
  ⟨_, ret_tk h, by rw [h]; exact ⟨Rng.nil, .inl ⟨rfl, rfl⟩⟩, hb⟩
set_option maxRecDepth 100000 in
set_option maxHeartbeats 4000000 in
theorem rTakeKeyText_any (v : Value) (l : List Int) (w : World) (h : IsB w v l) (hl : l.length ≤ 140737488355327) :
    Calls Try.prog 28 #[v] w (TkPost l w) := by
  obtain ⟨ao, cap, rfl, hnc, hcap, -⟩ := h.form
  have HB := Lib.hid h
  obtain ⟨i0, hi0, hz0, hz1, hz2⟩ := info_parts infoU8
  have HI := Lib.hid hi0; have HZ0 := Lib.hid hz0; have HZ1 := Lib.hid hz1; have HZ2 := Lib.hid hz2
  clear hi0 hz0 hz1 hz2 h
  go_enter Try.func28, Try.ntmps28
  go_wp2_with fail
  go_loopw [5, 6] (fun ov i wr => ∃ (k : Nat) (out : List Int), k ≤ l.length ∧ out.length ≤ k ∧ i = .int .i64 k ∧ Hid (Rng out) ∧ Hid (tkL l = tkOn out k (tkL (l.drop k))) ∧ Hid (wr.ownsRow w.heap.size 5 1 ov out.length (out.map (Value.int .u8))) ∧ Hid (Below w.heap.size w wr)) (fun _ i _ => l.length - (intOf i).toNat)
  case atStart => exact ⟨0, [], by omega, by simp, rfl, Rng.nil, (tkOn_nil (tkL_err l)).symm, World.ownsRow_nil _ _ _ _, Below.refl _ _⟩
  case round =>
    obtain ⟨k, out, hk, hp, rfl, hrng, htk, hown, hbel⟩ := hrel
    by_cases hlt : k < l.length
    · obtain ⟨b, o, x, rfl, hbb, hx, hc, hx1, hx2⟩ := (HB.out.below hbel.out).at_ (k := k) hlt
      have hdr := drop_cons hx.out
      by_cases hx0 : x = 0
      · subst hx0
        by_cases hk1 : k + 1 = l.length
        · have e : l.drop (k + 1) = [] := List.drop_eq_nil_of_le (by omega)
          have ht : tkL l = ([], 0, 10) := by rw [htk.out, hdr, e, tk_one]; rfl
          have HT := Lib.hid ht
          have q : ((k : Int) + 1 == (l.length : Int)) = true := by rw [beq_iff_eq]; omega
          clear ht hdr e
          go_wp2_with fail
          go_ret3
          exact tk_none (t := tkL l) HT.out hbel.out
        · obtain ⟨b2, o2, y, hbe, hbb2, hy, hc2, hy1, hy2⟩ := (HB.out.below hbel.out).at_ (k := k + 1) (by omega)
          cases hbe
          have q : ((k : Int) + 1 == (l.length : Int)) = false := beq_eq_false_iff_ne.2 (by omega)
          rw [drop_cons hy.out] at hdr
          by_cases hy10 : y = 1
          · subst hy10
            have ht : tkL l = (out, (k : Int) + 2, 0) := by rw [htk.out, hdr, tk_end]; unfold tkOn; simp
            have HT := Lib.hid ht
            clear ht hdr
            go_wp2_with fail
            go_ret3
            exact ⟨_, (congrArg (fun z => Ending.returned (.tuple #[_, .int .i64 z, .int .i64 0])) (by omega)).trans (ret_tk HT.out), by rw [HT.out]; exact OwnS.of_own hown.out hrng.out, hbel.out⟩
          · by_cases hy255 : y = 255
            · subst hy255
              have ht : tkL l = tkOn (out ++ [0]) (k + 2 : Nat) (tkL (l.drop (k + 1 + 1))) := by rw [htk.out, hdr, tk_ff, tkOn_on]; rfl
              have HT := Lib.hid ht
              clear ht hdr
              go_wp2_with (at_builtin; refine wpList_append_one (w := wr) (base := w.heap.size) (.tmp 43) (.tmp 44) _ rfl rfl i0 _ 1 Try.underlying23 HI.out HZ0.out HZ1.out HZ2.out rfl (.int .u8 0) rfl rfl hown.out rfl (by omega) (by omega) hbel.out.size ?_; intro v' w1 hown' hb'; have HO := Lib.hid hown'; have HB := Lib.hid hb'; clear hown' hb')
              go_roundw
              case rel => exact ⟨k + 2, out ++ [0], by omega, by simp; omega, by go_num, hrng.out.append (Rng.cons (by decide) Rng.nil), HT.out, by rw [List.map_append, List.length_append]; exact HO.out, hbel.out.trans HB.out⟩
              case measure => simp [intOf]; omega
            · have ht : tkL l = ([], 0, 11) := by rw [htk.out, hdr, tk_bad hy10 hy255]; rfl
              have HT := Lib.hid ht
              have q1 : (y == 1) = false := beq_eq_false_iff_ne.2 hy10
              have q2 : (y == 255) = false := beq_eq_false_iff_ne.2 hy255
              clear ht hdr
              go_wp2_with fail
              go_ret3
              exact tk_none (t := tkL l) HT.out hbel.out
      · have ht : tkL l = tkOn (out ++ [x]) (k + 1 : Nat) (tkL (l.drop (k + 1))) := by rw [htk.out, hdr, tk_cons hx0, tkOn_on]; rfl
        have HT := Lib.hid ht
        have q1 : (x != 0) = true := by simp [hx0]
        clear ht hdr
        go_wp2_with (at_builtin; refine wpList_append_one (w := wr) (base := w.heap.size) (.tmp 18) (.tmp 23) _ rfl rfl i0 _ 1 Try.underlying23 HI.out HZ0.out HZ1.out HZ2.out rfl (.int .u8 x) rfl rfl hown.out rfl (by omega) (by omega) hbel.out.size ?_; intro v' w1 hown' hb'; have HO := Lib.hid hown'; have HB := Lib.hid hb'; clear hown' hb')
        go_roundw
        case rel => exact ⟨k + 1, out ++ [x], by omega, by simp; omega, by go_num, hrng.out.append (Rng.cons ⟨hx1, hx2⟩ Rng.nil), HT.out, by rw [List.map_append, List.length_append]; exact HO.out, hbel.out.trans HB.out⟩
        case measure => simp [intOf]; omega
    · have hkp : k = l.length := by omega
      subst hkp
      have e : l.drop l.length = [] := List.drop_eq_nil_of_le (by omega)
      have ht : tkL l = ([], 0, 10) := by rw [htk.out, e, tk_nil]; rfl
      have HT := Lib.hid ht
      clear ht e
      go_wp2_with fail
      go_ret3
      exact tk_none (t := tkL l) HT.out hbel.out
end Codec
end Go.Proofs.Ytlolgiphppbcmaa
