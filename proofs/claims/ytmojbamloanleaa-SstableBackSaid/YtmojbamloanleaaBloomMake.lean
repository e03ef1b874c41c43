/- bloom: Make of both. -/
import Derived.Test.YtmojbamloanleaaBloom4
import Derived.Test.YtmojbamloanleaaKit
import Derived.Deep.DeepCutAuto
set_option linter.unusedVariables false
set_option linter.unusedSimpArgs false
namespace Go.Proofs.Ytmojbamloanleaa
open Go.RowKit
namespace Bloom
def probesF (q : Int) : Int := max 1 (q * 69 / 100)
def wordsF (n : Nat) (q : Int) : Int := max 1 (((n : Int) * q + 63) / 64)
def fill (ls : List (List Int)) (m : Int) (p : Nat) (f : List Int) : List Int := ls.foldl (fun f l => setAll f l m p) f
theorem fill_len (m : Int) (p : Nat) : ∀ (ls : List (List Int)) (f : List Int), (fill ls m p f).length = f.length
  | [], _ => rfl
  | l :: ls, f => by
    show (fill ls m p (setAll f l m p)).length = _
    rw [fill_len m p ls, setAll_len]
theorem fill_snoc {ls : List (List Int)} {k : Nat} {l : List Int} (h : ls[k]? = some l) (m : Int) (p : Nat) (f : List Int) : fill (ls.take (k + 1)) m p f = setAll (fill (ls.take k) m p f) l m p := by
  rw [take_snoc h]; unfold fill; rw [List.foldl_append]; rfl
/-- the filter of keys -/
def makeF (ls : List (List Int)) (q : Int) : List Int := fill ls (wordsF ls.length q * 64) (probesF q).toNat ((List.replicate (1 + 8 * (wordsF ls.length q).toNat) 0).set 0 (probesF q))
def okArgs (ls : List (List Int)) (q : Int) : Prop := (1 ≤ q ∧ q ≤ 30) ∧ ls.length ≤ 65536
def MakePost (ls : List (List Int)) (q : Int) (w : World) (e : Ending) (w' : World) : Prop :=
  ∃ fv, e = .returned (.tuple #[fv, .int .i64 0]) ∧ w'.ownsRow w.heap.size 5 1 fv (makeF ls q).length ((makeF ls q).map (Value.int .u8)) ∧ Below w.heap.size w w'
theorem info8 : (Try.prog.info? 5).map (fun i => (i.zero, i.size, i.bytes)) = some (some (.int .u8 0), 1, 1) := by kernel_rfl
set_option maxHeartbeats 400000 in
theorem make_bad (v : Value) (ls : List (List Int)) (q : Int) (w : World) (h : IsBB w v ls) (hq : -9223372036854775808 ≤ q ∧ q ≤ 9223372036854775807) (hb : ¬ okArgs ls q) :
    Calls Try.prog 67 #[v, .int .i64 q] w fun e w' => e = .returned (.tuple #[.slice none 0 0, .int .i64 1]) ∧ w = w' := by
  have hm := h.max
  obtain ⟨ao, cap, rfl, hnc⟩ := h.form
  unfold okArgs at hb
  by_cases h1 : q < 1
  · go_enter Try.func67, Try.ntmps67
    go_wp2_with fail
    go_ret2
    exact ⟨rfl, rfl⟩
  · by_cases h2 : 30 < q
    · have hd1 : decide (q < 1) = false := by simp; omega
      have hd2 : decide (30 < q) = true := by simp; omega
      clear h1 h2 hb h
      go_enter Try.func67, Try.ntmps67
      go_wp2_with fail
      go_ret2
      exact ⟨rfl, rfl⟩
    · have hd1 : decide (q < 1) = false := by simp; omega
      have hd2 : decide (30 < q) = false := by simp; omega
      have hd3 : 65536 < ls.length := by omega
      clear h1 h2 hb h
      go_enter Try.func67, Try.ntmps67
      go_wp2_with fail
      go_ret2
      exact ⟨rfl, rfl⟩
set_option maxHeartbeats 1000000 in
theorem make_ok (v : Value) (ls : List (List Int)) (q : Int) (w : World) (h : IsBB w v ls) (hb : okArgs ls q) :
    Calls Try.prog 67 #[v, .int .i64 q] w (MakePost ls q w) := by
  have hm := h.max
  obtain ⟨ao, cap, rfl, hnc⟩ := h.form
  obtain ⟨⟨q1, q2⟩, hl⟩ := hb
  have HB := Lib.hid h
  clear h
  have hd1 : decide (q < 1) = false := by simp; omega
  have hd2 : decide (30 < q) = false := by simp; omega
  have hd3 : decide (65536 < ls.length) = false := by simp; omega
  have hprod : 0 ≤ (ls.length : Int) * q ∧ (ls.length : Int) * q ≤ 1966080 := by
    constructor
    · exact Int.mul_nonneg (by omega) (by omega)
    · have : (ls.length : Int) * q ≤ 65536 * 30 := Int.mul_le_mul (by omega) (by omega) (by omega) (by omega)
      omega
  obtain ⟨p, hp⟩ : ∃ p : Nat, probesF q = p := ⟨(probesF q).toNat, by unfold probesF; omega⟩
  obtain ⟨W, hW⟩ : ∃ W : Nat, wordsF ls.length q = W := ⟨(wordsF ls.length q).toNat, by unfold wordsF; omega⟩
  have hpb : 1 ≤ p ∧ p ≤ 20 := by unfold probesF at hp; omega
  have hWb : 1 ≤ W ∧ W ≤ 30721 := by unfold wordsF at hW; omega
  have HP := Lib.hid hp
  have HW := Lib.hid hW
  clear hp hW
  go_enter Try.func67, Try.ntmps67
  go_upto_region 3 with fail
  go_cut [6] (fun s6 wx => s6 = .int .i64 ((W : Int) * 64) ∧ w = wx)
  case first =>
    go_wp2_with fail
    all_goals
      go_meet
      refine ⟨?_, rfl⟩
      have hW := HW.out
      unfold wordsF at hW
      congr 1; omega
  case rest =>
    obtain ⟨rfl, rfl⟩ := hcut
    go_upto_region 4 with fail
    go_cut [7] (fun s7 wx => s7 = .int .i64 (p : Int) ∧ w = wx)
    case first =>
      go_wp2_with fail
      all_goals
        go_meet
        refine ⟨?_, rfl⟩
        have hp := HP.out
        unfold probesF at hp
        congr 1; omega
    case rest =>
      obtain ⟨rfl, rfl⟩ := hcut
      obtain ⟨i0, hi0, hz0, hz1, hz2⟩ := info_parts info8
      have HI := Lib.hid hi0; have HZ0 := Lib.hid hz0; have HZ1 := Lib.hid hz1; have HZ2 := Lib.hid hz2
      clear hi0 hz0 hz1 hz2
      go_wp2_with (at_make; refine wpList_make_bytes rfl (.tmp 36) (.tmp 36) _ rfl i0 Try.underlying25 HI.out HZ0.out HZ1.out HZ2.out _ _ (1 + 8 * W) rfl rfl (by push_cast; omega) (by push_cast; omega) (by omega) (Nat.le_refl _) ?_; intro w1 hown gg zz; have HO := Lib.hid hown; obtain ⟨_, x0, hx1, _, _, hx, c0, f0⟩ := own_at hown (k := 0) (by omega); cases hx1; clear hown; have H0 := hx; clear hx)
      go_loopw [44] (fun i wr => ∃ k : Nat, k ≤ ls.length ∧ i = .int .i64 k ∧
        Hid (wr.ownsRow w.heap.size 5 1 (.slice (some ⟨w.heap.size, 0, none⟩) (1 + 8 * W) (1 + 8 * W)) (1 + 8 * W) ((fill (ls.take k) ((W : Int) * 64) p ((List.replicate (1 + 8 * W) 0).set 0 (p : Int))).map (Value.int .u8))) ∧
        wr.cell? ⟨w1.heap.size, 0, none⟩ = some (.slice (some ⟨w.heap.size, 0, none⟩) (1 + 8 * W) (1 + 8 * W)) ∧ Hid (Below w.heap.size w wr)) (fun i _ => ls.length - (intOf i).toNat)
      case atStart =>
        refine ⟨0, Nat.zero_le _, rfl, ?_, by go_simp, Lib.hid (by repeat' (first | (with_reducible exact Below.refl _ _) | (with_reducible assumption) | (with_reducible refine Below.drew ?_) | (with_reducible refine below_drewN ?_ _) | (with_reducible refine bel_alloc ?_ _) | (with_reducible refine Below.setCell ?_ ?_ _) | (with_reducible refine bel_call ?_ (by assumption)) | (simp <;> omega)))⟩
        show World.ownsRow _ _ _ _ _ _ _
        have := (HO.out.stored 0 (.int .u8 p)).1.alloc (Obj.cells #[Value.slice (some ⟨w.heap.size, 0, none⟩) (1 + 8 * W) (1 + 8 * W)] 25)
        rw [← List.map_set] at this
        exact this
      case round =>
        obtain ⟨k, hk, rfl, hown, hcell, hbel⟩ := hrel
        by_cases hlt : k < ls.length
        · obtain ⟨b, o, u, l, rfl, hb, hx, hc, hB⟩ := (HB.out.below hbel.out).at_ hlt
          go_wp2_with fail
          refine (each_make w.heap.size (1 + 8 * W) u _ l _ w1.heap.size p _ wr hB.out hown.out hcell (by simp [Value.ownBlock]; omega) (by omega) (by omega) (by push_cast; omega) (by omega)).mono ?_
          unfold EachPost
          rintro e w2 ⟨rfl, hown2, hg2⟩
          have HO2 := Lib.hid hown2
          have HC2 := Lib.hid (grown_cell hg2 hcell (by simp [Value.ownBlock]; omega))
          have HB2 := Lib.hid (bel_grown hbel.out hg2 (Nat.le_refl _))
          clear hown2 hg2
          go_wp2_with fail
          go_roundw
          case rel => exact ⟨k + 1, by omega, by go_num, by rw [fill_snoc hx.out]; exact HO2.out, HC2.out, HB2.out⟩
          case measure => simp [intOf]; omega
        · have hkp : k = ls.length := by omega
          subst hkp
          go_wp2_with fail
          go_ret2
          have e : makeF ls q = fill (ls.take ls.length) ((W : Int) * 64) p ((List.replicate (1 + 8 * W) 0).set 0 (p : Int)) := by
            unfold makeF
            rw [HP.out, HW.out, List.take_length]
            rfl
          refine ⟨_, rfl, ?_, hbel.out⟩
          rw [e, fill_len]
          have hl : ((List.replicate (1 + 8 * W) (0 : Int)).set 0 (p : Int)).length = 1 + 8 * W := by simp
          rw [hl]
          exact hown.out
end Bloom
end Go.Proofs.Ytmojbamloanleaa
