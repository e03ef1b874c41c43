/- wal's statements: the document's examples. -/
import Derived.Test.YtlfelpbcnpjneaaWalReplay
import Derived.Test.YtlfelpbcnpjneaaWalPlain
namespace Go.Proofs.Ytlfelpbcnpjneaa
open Go.RowKit
namespace Wal
open Codec
abbrev bodyShown : List Int := [1, 2, 0, 1, 97, 1, 120, 1, 1, 98]
abbrev opsShown : List Opr := [(false, [97], [120]), (true, [98], [])]
theorem bodyB_shown : bodyB 1 opsShown = bodyShown := by simp [bodyB, opB, textB, numN_lo]
theorem encF_shown : encF 1 opsShown = (frameF 66 bodyShown, 0) := by
  unfold encF
  rw [bodyB_shown, if_neg (by decide), if_neg (by decide), if_neg (by decide)]
theorem frame_shown : ∃ a b c d, frameF 66 bodyShown = [66, 10, a, b, c, d, 1, 2, 0, 1, 97, 1, 120, 1, 1, 98] ∧ Rng [66, 10, a, b, c, d, 1, 2, 0, 1, 97, 1, 120, 1, 1, 98] := by
  have hr : Rng (frameF 66 bodyShown) := frameF_rng (by decide) (by intro x hx; simp at hx; omega)
  have e : frameF 66 bodyShown = [66, 10] ++ le4 (sumsF (headF 66 bodyShown) bodyShown) ++ bodyShown := by unfold frameF headF; rw [numN_lo (by decide)]; rfl
  refine ⟨_, _, _, _, e, ?_⟩
  rw [e] at hr
  exact hr
theorem rep_shown : rep (frameF 66 bodyShown ++ [66, 3]) = ([(1, opsShown)], 16, 10) := by
  obtain ⟨a, b, c, d, hf, -⟩ := frame_shown
  have hl : (frameF 66 bodyShown).length = 16 := by rw [hf]; rfl
  have hc : chainOk 0 [((1 : Nat), opsShown)] := ⟨fun h => absurd h (by decide), by rw [encF_shown], trivial⟩
  have h := rep_bats [((1 : Nat), opsShown)] 18 0 [66, 3] hc
  have hb : batsB [((1 : Nat), opsShown)] = frameF 66 bodyShown := by simp only [batsB, batB, List.map_cons, List.map_nil, List.flatten_cons, List.flatten_nil, List.append_nil, bodyB_shown]
  rw [hb, hl] at h
  have e2 : takeFrameF [66, 3] = (0, [], 0, 10) := by decide
  have e3 : repF 18 [66, 3] (lastNx 0 [((1 : Nat), opsShown)]) = ([], 0, 10) := by rw [repF, if_neg (by decide), e2]; rfl
  rw [e3] at h
  have hl2 : (frameF 66 bodyShown ++ [66, 3]).length + 1 = 18 + [((1 : Nat), opsShown)].length := by rw [List.length_append, hl]; rfl
  unfold rep
  rw [hl2, h]
  simp
theorem isOps_shown (w : World) : IsOps ((((w.alloc (.cells #[.int .u8 97] 5 (1, 2))).alloc (.cells #[.int .u8 120] 5 (1, 2))).alloc (.cells #[.int .u8 98] 5 (1, 2))).alloc
    (.cells #[.bool false, .slice (some ⟨w.heap.size, 0, none⟩) 1 1, .slice (some ⟨w.heap.size + 1, 0, none⟩) 1 1, .bool true, .slice (some ⟨w.heap.size + 1 + 1, 0, none⟩) 1 1, .slice none 0 0] 43)) (.slice (some ⟨w.heap.size + 1 + 1 + 1, 0, none⟩) 2 2) opsShown := by
  have r : ∀ x : Int, 0 ≤ x ∧ x ≤ 255 → Rng [x] := fun x hx => Rng.cons hx Rng.nil
  have b0 : IsB (w.alloc (.cells #[.int .u8 97] 5 (1, 2))) (.slice (some ⟨w.heap.size, 0, none⟩) 1 1) [97] := isB_const w [97] (r _ (by decide)) (by decide) 5 (1, 2)
  have b1 := isB_const (w.alloc (.cells #[.int .u8 97] 5 (1, 2))) [120] (r _ (by decide)) (by decide) 5 (1, 2)
  have b2 := isB_const ((w.alloc (.cells #[.int .u8 97] 5 (1, 2))).alloc (.cells #[.int .u8 120] 5 (1, 2))) [98] (r _ (by decide)) (by decide) 5 (1, 2)
  simp only [World.size_alloc] at b1 b2
  have B0 := ((b0.alloc (.cells #[.int .u8 120] 5 (1, 2))).alloc (.cells #[.int .u8 98] 5 (1, 2))).alloc (.cells #[.bool false, .slice (some ⟨w.heap.size, 0, none⟩) 1 1, .slice (some ⟨w.heap.size + 1, 0, none⟩) 1 1, .bool true, .slice (some ⟨w.heap.size + 1 + 1, 0, none⟩) 1 1, .slice none 0 0] 43)
  have B1 := (b1.alloc (.cells #[.int .u8 98] 5 (1, 2))).alloc (.cells #[.bool false, .slice (some ⟨w.heap.size, 0, none⟩) 1 1, .slice (some ⟨w.heap.size + 1, 0, none⟩) 1 1, .bool true, .slice (some ⟨w.heap.size + 1 + 1, 0, none⟩) 1 1, .slice none 0 0] 43)
  have B2 := b2.alloc (.cells #[.bool false, .slice (some ⟨w.heap.size, 0, none⟩) 1 1, .slice (some ⟨w.heap.size + 1, 0, none⟩) 1 1, .bool true, .slice (some ⟨w.heap.size + 1 + 1, 0, none⟩) 1 1, .slice none 0 0] 43)
  refine ⟨_, 2, rfl, by decide, by simp [maxLen], fun h => (by cases h), fun i x hx => ?_⟩
  match i, hx with
  | 0, hx =>
    cases hx
    refine ⟨_, 0, [.bool false, .slice (some ⟨w.heap.size, 0, none⟩) 1 1, .slice (some ⟨w.heap.size + 1, 0, none⟩) 1 1], rfl, by simp, rfl, fun j u hu => ?_, _, _, rfl, B0, B1⟩
    match j, hu with
    | 0, hu => cases hu; go_simp
    | 1, hu => cases hu; go_simp
    | 2, hu => cases hu; go_simp
  | 1, hx =>
    cases hx
    refine ⟨_, 0, [.bool true, .slice (some ⟨w.heap.size + 1 + 1, 0, none⟩) 1 1, .slice none 0 0], rfl, by simp, rfl, fun j u hu => ?_, _, _, rfl, B2, IsB.nil _⟩
    match j, hu with
    | 0, hu => cases hu; go_simp
    | 1, hu => cases hu; go_simp
    | 2, hu => cases hu; go_simp
set_option maxRecDepth 100000 in
set_option maxHeartbeats 4000000 in
theorem shown_any (w : World) : Calls Try.prog 6 #[] w (Ret (.bool true) w) := by
  have kc := fun (w : World) (C : Array Value) (n c : Nat) => Lib.run_convert_bytes_const (P := Try.prog) w 28 5 C n c Try.underlying28 Try.underlying5
  have kc1 : ∀ (o : Obj) (C : Array Value) (n c : Nat), Sem.run Try.prog (convert 28 28 (Value.slice (some ⟨w.heap.size + 1, 0, none⟩) n c)) ((w.alloc o).alloc (.cells C 5)) = .ok (.slice (some ⟨w.heap.size + 1, 0, none⟩) n c) ((w.alloc o).alloc (.cells C 5 (C.size, C.size + 1))) := fun o C n c => by
    have := kc (w.alloc o) C n c; simpa using this
  have kc2 : ∀ (o o' : Obj) (C : Array Value) (n c : Nat), Sem.run Try.prog (convert 28 28 (Value.slice (some ⟨w.heap.size + 1 + 1, 0, none⟩) n c)) (((w.alloc o).alloc o').alloc (.cells C 5)) = .ok (.slice (some ⟨w.heap.size + 1 + 1, 0, none⟩) n c) (((w.alloc o).alloc o').alloc (.cells C 5 (C.size, C.size + 1))) := fun o o' C n c => by
    have := kc ((w.alloc o).alloc o') C n c; simpa using this
  have HE1 := Lib.hid (encode_any 1 (by decide) _ opsShown _ (isOps_shown w))
  unfold EncPost at HE1
  rw [encF_shown] at HE1
  obtain ⟨a, b, c, d, hf, hrng⟩ := frame_shown
  have hrep := rep_shown
  rw [hf] at HE1 hrep
  have HREP := Lib.hid hrep
  have HRNG := Lib.hid hrng
  obtain ⟨i0, hi0, hz0, hz1, hz2⟩ := info_parts infoU8
  have HI := Lib.hid hi0; have HZ0 := Lib.hid hz0; have HZ1 := Lib.hid hz1; have HZ2 := Lib.hid hz2
  have s1 : (strOfNums bodyShown).toList = [1, 2, 0, 1, 97, 1, 120, 1, 1, 98] := by rw [ByteArray.toList_eq, strOfNums_data]; rfl
  clear hi0 hz0 hz1 hz2 hf hrep hrng
  go_enter Try.func6, Try.ntmps6
  go_wp2_with fail
  refine HE1.out.mono ?_
  rintro e w1 ⟨ev, rfl, hev, g1⟩
  have gg : Below w.heap.size w w1 := bel_call (by repeat' (first | (with_reducible exact Below.refl _ _) | (with_reducible assumption) | (with_reducible refine Below.drew ?_) | (with_reducible refine below_drewN ?_ _) | (with_reducible refine bel_alloc ?_ _) | (with_reducible refine Below.setCell ?_ ?_ _) | (with_reducible refine bel_call ?_ (by assumption)) | (simp <;> omega))) g1
  have GG := Lib.hid gg
  have z1 := gg.size
  obtain ⟨eo, ecap, rfl, hnc, hcap, -, -⟩ := hev.form
  obtain ⟨g, x0, rfl, -, -, hx0, hc0, -⟩ := hev.at_ (k := 0) (by simp)
  obtain ⟨g', x1, hg', -, -, hx1, hc1, -⟩ := hev.at_ (k := 1) (by simp)
  cases hg'
  have hx0' := hx0.out
  have hx1' := hx1.out
  simp only [List.getElem?_cons_zero, List.getElem?_cons_succ, Option.some.injEq] at hx0' hx1'
  subst hx0' hx1'
  have HV := Lib.hid hev
  have hcut' := hev.isB.cut 6 10 (by simp)
  have hcut : IsB w1 (.slice (some ⟨g, 6, none⟩) 10 (ecap - 6)) bodyShown := by simpa [plain_add'] using hcut'
  clear hcut'
  have hconv := hcut.conv Try.underlying28 Try.underlying5 Try.underlying9
  clear gg g1 hx0 hx1 hev hcut
  simp only [List.length_cons, List.length_nil] at hnc
  go_wp2_with (first
    | (at_builtin; refine wpList_append_bytes (w := w1.alloc (.cells #[] 5)) (base := w1.heap.size) (.tmp 50) (.tmp 51) _ rfl rfl i0 _ Try.underlying28 HI.out HZ0.out HZ1.out HZ2.out rfl _ [] _ rfl rfl (World.ownsRow_lit w1 #[] 0 (Nat.le_refl _) (by simp [maxLen]) (by simp)) (HV.out.isB.alloc _) (by simp) (by simp) ?_; intro v2 w2 hown2 hb2; change w2.ownsRow w1.heap.size 5 1 v2 16 (([66, 10, a, b, c, d, 1, 2, 0, 1, 97, 1, 120, 1, 1, 98] : List Int).map (Value.int .u8)) at hown2; have HO2 := Lib.hid hown2; have G2 := Lib.hid (GG.out.trans ((((Below.refl _ w1).alloc (Nat.le_refl _) _).trans hb2).mono GG.out.size)); have Z2 := (((Below.refl _ w1).alloc (Nat.le_refl _) _).trans hb2).size; obtain ⟨o2, cap2, rfl, -, -, -, -⟩ := own_form hown2; clear hown2 hb2)
    | (at_builtin; refine wpList_append_bytes (w := w2.alloc (.cells #[.int .u8 66, .int .u8 3] 5)) (base := w1.heap.size) (.tmp 52) (.tmp 53) _ rfl rfl i0 _ Try.underlying28 HI.out HZ0.out HZ1.out HZ2.out rfl _ [66, 10, a, b, c, d, 1, 2, 0, 1, 97, 1, 120, 1, 1, 98] [66, 3] rfl rfl (HO2.out.alloc _) (isB_const w2 [66, 3] (Rng.cons (by decide) (Rng.cons (by decide) Rng.nil)) (by decide) 5 (0, 0)) (by simp) (by simp; omega) ?_; intro v3 w3 hown3 hb3; change w3.ownsRow w1.heap.size 5 1 v3 18 (([66, 10, a, b, c, d, 1, 2, 0, 1, 97, 1, 120, 1, 1, 98, 66, 3] : List Int).map (Value.int .u8)) at hown3; have HB3 := Lib.hid (IsB.of_own hown3 (show Rng ([66, 10, a, b, c, d, 1, 2, 0, 1, 97, 1, 120, 1, 1, 98] ++ [66, 3]) from HRNG.out.append (Rng.cons (by decide) (Rng.cons (by decide) Rng.nil)))); have G3 := Lib.hid ((G2.out.alloc (Nat.le_trans GG.out.size Z2) _).trans (hb3.mono GG.out.size)); obtain ⟨o3, cap3, rfl, -, -, -, -⟩ := own_form hown3; clear hown3 hb3))
  refine (replay_any _ _ w3 HB3.out (by simp)).mono ?_
  unfold RepPost
  have hr : rep [66, 10, a, b, c, d, 1, 2, 0, 1, 97, 1, 120, 1, 1, 98, 66, 3] = ([(1, opsShown)], 16, 10) := HREP.out
  rw [hr]
  rintro e w4 ⟨bv, rfl, hbv, g4⟩
  have G4 := Lib.hid (bel_call G3.out g4)
  obtain ⟨xs, hxs, -⟩ := hbv
  obtain ⟨bo, bcap, rfl, -, -, -, -⟩ := own_form hxs
  clear hxs g4 hr
  go_wp2_with fail
  refine (encode_any 1 (by decide) _ [] _ (IsL.nil _)).mono ?_
  unfold EncPost
  have e2 : encF 1 [] = ([], 60) := by decide
  rw [e2]
  rintro e w5 ⟨ev, rfl, hev, g5⟩
  have G5 := Lib.hid (bel_call G4.out g5)
  obtain ⟨fo, fcap, rfl, -, -, -, -⟩ := hev.form
  clear hev g5 e2
  go_wp2_with fail
  go_ret
  exact ⟨rfl, G5.out⟩
end Wal
end Go.Proofs.Ytlfelpbcnpjneaa
