/- codec: KeyText of both, the document's KeyInt. -/
import Derived.Test.YtfkemeamimcnjaaDoorCodecRepW
import Derived.Test.YtfkemeamimcnjaaDoorCodecRTT
import Derived.Test.YtfkemeamimcnjaaDoorCodecK
import Derived.Test.YtfkemeamimcnjaaDoorCodecShown
import Derived.Test.YtfkemeamimcnjaaDoorCodecRX
set_option linter.unusedVariables false
set_option linter.unusedSimpArgs false
namespace Go.Proofs.YtfkemeamimcnjaaDoor
open Go.RowKit
set_option maxHeartbeats 400000 in
theorem replaceAll_any (v ov nv : Value) (l : List Int) (w : World) (h : IsB w v l) (ho : IsB w ov [0]) (hn : IsB w nv [0, 255]) (hl : l.length ≤ 1099511627776) :
    Calls Tryd.prog 96 #[v, ov, nv] w (RepPost l w) := by
  have HC := Lib.hid (replace_any v ov nv l w h ho hn hl)
  clear h ho hn
  go_enter Tryd.func96, Tryd.ntmps96
  go_wp2_with fail
  refine HC.out.mono ?_
  unfold RepPost
  rintro e w1 ⟨rv, rfl, h1, h2⟩
  have H1 := Lib.hid h1
  have H2 := Lib.hid h2
  obtain ⟨_, _, rfl, -, -, -, -⟩ := own_form h1
  clear h1 h2
  go_wp2_with fail
  go_ret
  exact ⟨_, rfl, H1.out, H2.out⟩
namespace Codec
def keyT (l : List Int) : List Int := repl l ++ [0, 1]
theorem keyT_rng {l : List Int} (h : Rng l) : Rng (keyT l) := (repl_rng h).append (Rng.cons (by decide) (Rng.cons (by decide) Rng.nil))
def KeyTPost (l : List Int) (w : World) (e : Ending) (w' : World) : Prop :=
  ∃ v, e = .returned v ∧ w'.ownsRow w.heap.size 5 1 v (keyT l).length ((keyT l).map (Value.int .u8)) ∧ Below w.heap.size w w'
theorem tkL_key : ∀ (l m : List Int), tkL (keyT l ++ m) = (l, ((keyT l).length : Int), 0)
  | [], m => tk_end m
  | x :: l, m => by
    have ih := tkL_key l m
    by_cases h : x = 0
    · subst h
      have e : keyT (0 :: l) ++ m = 0 :: 255 :: (keyT l ++ m) := by simp [keyT, repl]
      rw [e, tk_ff, ih]
      simp [tkOn, keyT, repl]; omega
    · have e : keyT (x :: l) ++ m = x :: (keyT l ++ m) := by simp [keyT, repl, h]
      rw [e, tk_cons h, ih]
      simp [tkOn, keyT, repl, h]; omega
set_option maxHeartbeats 1000000 in
theorem keyText_any (v : Value) (l : List Int) (w : World) (h : IsB w v l) (hl : l.length ≤ 1099511627776) : Calls Tryd.prog 83 #[v] w (KeyTPost l w) := by
  have HB := Lib.hid h
  have hrl : (repl l).length ≤ 2199023255552 := by rw [repl_len]; have : l.count 0 ≤ l.length := List.count_le_length; omega
  have HRL := Lib.hid hrl
  obtain ⟨ao, cap, rfl, -, -, -⟩ := h.form
  clear h hrl
  have hb1 : IsB ((w.alloc (.cells #[.int .u8 0] 5)).alloc (.cells #[.int .u8 0, .int .u8 255] 5)) (.slice (some ⟨w.heap.size, 0, none⟩) 1 1) [0] := ((isB_const w [0] (Rng.cons (by decide) Rng.nil) (by simp) 5 (0, 0)).alloc (.cells #[.int .u8 0, .int .u8 255] 5))
  have hb2 : IsB ((w.alloc (.cells #[.int .u8 0] 5)).alloc (.cells #[.int .u8 0, .int .u8 255] 5)) (.slice (some ⟨w.heap.size + 1, 0, none⟩) 2 2) [0, 255] := (isB_lit_on w (.cells #[.int .u8 0] 5) [0, 255] (Rng.cons (by decide) (Rng.cons (by decide) Rng.nil)) (by simp) 5)
  have b1 := Lib.hid hb1
  have b2 := Lib.hid hb2
  clear hb1 hb2
  go_enter Tryd.func83, Tryd.ntmps83
  go_wp2_with fail
  refine (replaceAll_any _ _ _ l _ ((HB.out.alloc _).alloc _) b1.out b2.out hl).mono ?_
  unfold RepPost
  rintro e w1 ⟨rv, rfl, hrv, g1⟩
  have HR := Lib.hid (IsB.of_own hrv (repl_rng HB.out.rng))
  have G1 := Lib.hid (bel_call (bel_alloc (bel_alloc (Below.refl _ w) _) _) g1)
  obtain ⟨ro, rcap, rfl, -, -, -, -⟩ := own_form hrv
  have hL : IsB (w1.alloc (.cells #[.int .u8 0, .int .u8 1] 5)) (.slice (some ⟨w1.heap.size, 0, none⟩) 2 2) [0, 1] := isB_const w1 [0, 1] (Rng.cons (by decide) (Rng.cons (by decide) Rng.nil)) (by simp) 5 (0, 0)
  have hBB : IsBB ((w1.alloc (.cells #[.int .u8 0, .int .u8 1] 5)).alloc (.cells #[.slice ro (repl l).length rcap, .slice (some ⟨w1.heap.size, 0, none⟩) 2 2] 29)) (.slice (some ⟨w1.heap.size + 1, 0, none⟩) 2 2) [repl l, [0, 1]] := by
    have := isBB_two 29 (HR.out.alloc (.cells #[.int .u8 0, .int .u8 1] 5)) hL
    rwa [show (w1.alloc (.cells #[.int .u8 0, .int .u8 1] 5)).heap.size = w1.heap.size + 1 from by simp] at this
  have HBB := Lib.hid hBB
  clear hL hBB
  clear hrv g1
  go_wp2_with fail
  refine (concat_any _ [repl l, [0, 1]] _ HBB.out (by unfold catLen; simp; have := HRL.out; omega)).mono ?_
  unfold CatPost
  rintro e w2 ⟨cv, rfl, hcv, g2⟩
  have HC := Lib.hid hcv
  have G2 := Lib.hid (bel_call (bel_alloc (bel_alloc G1.out _) _) g2)
  have z2 := G1.out.size
  clear hcv g2
  go_wp2_with fail
  go_ret
  have e2 : [repl l, [0, 1]].flatten = keyT l := by simp [keyT]
  have h3 := HC.out
  rw [e2] at h3
  exact ⟨_, rfl, own_mono h3 (by simp; omega), G2.out⟩
theorem repl_snoc {l : List Int} {k : Nat} {x : Int} (h : l[k]? = some x) : repl (l.take (k + 1)) = repl (l.take k) ++ (if x = 0 then [0, 255] else [x]) := by
  rw [take_snoc h, repl_append]
  have e : repl [x] = if x = 0 then [0, 255] else [x] := rfl
  rw [e]
set_option maxRecDepth 100000 in
set_option maxHeartbeats 2000000 in
theorem rKeyText_any (v : Value) (l : List Int) (w : World) (h : IsB w v l) (hl : l.length ≤ 1099511627776) : Calls Tryd.prog 85 #[v] w (KeyTPost l w) := by
  obtain ⟨ao, cap, rfl, hnc, hcap, -⟩ := h.form
  have HB := Lib.hid h
  obtain ⟨i0, hi0, hz0, hz1, hz2⟩ := info_parts infoU8
  have HI := Lib.hid hi0; have HZ0 := Lib.hid hz0; have HZ1 := Lib.hid hz1; have HZ2 := Lib.hid hz2
  clear hi0 hz0 hz1 hz2 h
  go_enter Tryd.func85, Tryd.ntmps85
  go_wp2_with fail
  go_loopw [3, 4] (fun ov i wr => ∃ (k : Nat) (out : List Int), k ≤ l.length ∧ out.length ≤ 2 * k ∧ i = .int .i64 k ∧ Hid (out = repl (l.take k)) ∧ Hid (wr.ownsRow w.heap.size 5 1 ov out.length (out.map (Value.int .u8))) ∧ Hid (Below w.heap.size w wr)) (fun _ i _ => l.length - (intOf i).toNat)
  case atStart => exact ⟨0, [], by omega, by simp, rfl, rfl, World.ownsRow_nil _ _ _ _, Below.refl _ _⟩
  case round =>
    obtain ⟨k, out, hk, hp, rfl, hout, hown, hbel⟩ := hrel
    by_cases hlt : k < l.length
    · obtain ⟨b, o, x, rfl, hbb, hx, hc, hx1, hx2⟩ := (HB.out.below hbel.out).at_ (k := k) hlt
      have hsn := repl_snoc hx.out
      by_cases hx0 : x = 0
      · subst hx0
        rw [if_pos rfl, ← hout.out] at hsn
        have HSN := Lib.hid hsn
        clear hsn
        go_wp2_with (first
          | (at_builtin; refine wpList_append_one (w := wr) (base := w.heap.size) (.tmp 11) (.tmp 16) _ rfl rfl i0 _ 1 Tryd.underlying29 HI.out HZ0.out HZ1.out HZ2.out rfl (.int .u8 0) rfl rfl hown.out rfl (by omega) (by omega) hbel.out.size ?_; intro v1 w1 hown1 hb1; have HO1 := Lib.hid hown1; have HB1 := Lib.hid (hbel.out.trans hb1); have C1 := ((HB.out.below HB1.out).at_ (k := k) hlt); obtain ⟨_, _, y, hy0, _, hy, hyc, _, _⟩ := C1; cases hy0; have hy1 : y = 0 := (by have h1 := hy.out; rw [hx.out] at h1; exact (Option.some.inj h1).symm); subst hy1; clear hown1 hb1 hy hx hc)
          | (at_builtin; refine wpList_append_one (w := w1) (base := w.heap.size) (.tmp 23) (.tmp 24) _ rfl rfl i0 _ 1 Tryd.underlying29 HI.out HZ0.out HZ1.out HZ2.out rfl (.int .u8 255) rfl rfl HO1.out rfl (by omega) (by omega) HB1.out.size ?_; intro v2 w2 hown2 hb2; have HO2 := Lib.hid hown2; have HB2 := Lib.hid (HB1.out.trans hb2); clear hown2 hb2))
        go_roundw
        case rel => exact ⟨k + 1, out ++ [0, 255], by omega, by simp; omega, by go_num, HSN.out.symm, by have h2 := HO2.out; rw [List.append_assoc] at h2; rw [List.map_append, List.length_append]; exact h2, HB2.out⟩
        case measure => simp [intOf]; omega
      · rw [if_neg hx0, ← hout.out] at hsn
        have HSN := Lib.hid hsn
        have q : (x == 0) = false := beq_eq_false_iff_ne.2 hx0
        clear hsn
        go_wp2_with (at_builtin; refine wpList_append_one (w := wr) (base := w.heap.size) (.tmp 11) (.tmp 16) _ rfl rfl i0 _ 1 Tryd.underlying29 HI.out HZ0.out HZ1.out HZ2.out rfl (.int .u8 x) rfl rfl hown.out rfl (by omega) (by omega) hbel.out.size ?_; intro v1 w1 hown1 hb1; have HO1 := Lib.hid hown1; have HB1 := Lib.hid (hbel.out.trans hb1); have C1 := ((HB.out.below HB1.out).at_ (k := k) hlt); obtain ⟨_, _, y, hy0, _, hy, hyc, _, _⟩ := C1; cases hy0; have hy1 : y = x := (by have h1 := hy.out; rw [hx.out] at h1; exact (Option.some.inj h1).symm); subst hy1; clear hown1 hb1 hy hx hc)
        go_roundw
        case rel => exact ⟨k + 1, out ++ [y], by omega, by simp; omega, by go_num, HSN.out.symm, by rw [List.map_append, List.length_append]; exact HO1.out, HB1.out⟩
        case measure => simp [intOf]; omega
    · have hkp : k = l.length := by omega
      subst hkp
      have he : out ++ [0, 1] = keyT l := by rw [hout.out, List.take_length]; rfl
      have HE := Lib.hid he
      clear he
      go_wp2_with (at_builtin; refine wpList_append_bytes (w := wr.alloc (.cells #[.int .u8 0, .int .u8 1] 5)) (base := w.heap.size) (.tmp 26) (.tmp 27) _ rfl rfl i0 _ Tryd.underlying29 HI.out HZ0.out HZ1.out HZ2.out rfl _ out [0, 1] rfl rfl (own_below hown.out (bel_alloc (Below.refl _ _) _)) (isB_const wr [0, 1] (Rng.cons (by decide) (Rng.cons (by decide) Rng.nil)) (by simp) 5 (0, 0)) (by simp only [List.length_cons, List.length_nil]; omega) (by have := hbel.out.size; simp; omega) ?_; intro v2 w2 hown2 hb2; have HO2 := Lib.hid hown2; have HB2 := Lib.hid ((bel_alloc hbel.out _).trans hb2); clear hown2 hb2)
      go_ret
      exact ⟨_, rfl, by rw [← HE.out, List.length_append]; exact HO2.out, HB2.out⟩
set_option maxRecDepth 100000 in
set_option maxHeartbeats 4000000 in
theorem rKeyInt_any (n : Int) (w : World) (h : -9223372036854775808 ≤ n ∧ n ≤ 9223372036854775807) :
    Calls Tryd.prog 66 #[.int .i64 n] w (KeyPost n w) := by
  have HF := Lib.hid (flip_wrap n h)
  obtain ⟨u, hu⟩ : ∃ u, n + 9223372036854775808 = u := ⟨_, rfl⟩
  have hub : 0 ≤ u ∧ u ≤ 18446744073709551615 := by omega
  rw [hu] at HF
  have HU := Lib.hid hu
  have hmk : ∀ w, (Instr.makeSlice 29 (.int .i64 8) (.int .i64 8)).run Tryd.prog w = .ok (.slice (some ⟨w.heap.size, 0, none⟩) 8 8) (w.alloc (.cells #[.int .u8 0, .int .u8 0, .int .u8 0, .int .u8 0, .int .u8 0, .int .u8 0, .int .u8 0, .int .u8 0] 5)) := fun _ => by kernel_rfl
  clear h hu
  go_enter Tryd.func66, Tryd.ntmps66
  go_wp2_with fail
  rw [HF.out]
  refine wp_loop_rounds 9 ?_
  rw [rounds_succ]; go_wp2_with fail
  rw [rounds_succ]; go_wp2_with fail
  rw [rounds_succ]; go_wp2_with fail
  rw [rounds_succ]; go_wp2_with fail
  rw [rounds_succ]; go_wp2_with fail
  rw [rounds_succ]; go_wp2_with fail
  rw [rounds_succ]; go_wp2_with fail
  rw [rounds_succ]; go_wp2_with fail
  rw [rounds_succ]; go_wp2_with fail
  go_ret
  have e : keyL n = bytes8 u := by unfold keyL; rw [HU.out]
  refine ⟨_, rfl, ?_, (by repeat' (first | (with_reducible exact Below.refl _ _) | (with_reducible assumption) | (with_reducible refine Below.drew ?_) | (with_reducible refine below_drewN ?_ _) | (with_reducible refine bel_alloc ?_ _) | (with_reducible refine Below.setCell ?_ ?_ _) | (with_reducible refine bel_call ?_ (by assumption)) | (simp <;> omega)))⟩
  have e8 : bytes8 u = [u / 256 / 256 / 256 / 256 / 256 / 256 / 256 % 256, u / 256 / 256 / 256 / 256 / 256 / 256 % 256, u / 256 / 256 / 256 / 256 / 256 % 256, u / 256 / 256 / 256 / 256 % 256, u / 256 / 256 / 256 % 256, u / 256 / 256 % 256, u / 256 % 256, u % 256] := by
    unfold bytes8
    simp only [List.cons.injEq, and_true]
    omega
  rw [e, e8]
  exact World.ownsRow_lit w _ 8 (Nat.le_refl _) (by simp [maxLen]) (by simp)
end Codec
end Go.Proofs.YtfkemeamimcnjaaDoor
