/- rangemeta: the walk of RangemetaHolds. -/
import Derived.Test.YtbeniogffhihlaaRmHold
import Derived.Test.YtbeniogffhihlaaRmSplitsW
import Derived.Test.YtbeniogffhihlaaRegT
set_option linter.unusedVariables false
set_option linter.unusedSimpArgs false
namespace Go.Proofs.Ytbeniogffhihlaa
open Go.RowKit
namespace Rm
/-- a table that holds all keys -/
structure HoI (w : World) (B tb : Nat) (wr : World) (L : List RangeD) : Prop where
  good : Good L
  ch : Ch [] L
  tab : ∃ v, wr.heap[tb]? = some (.cells #[v] 80 (0, 0)) ∧ OwnRgs wr B v L
  bel : Below w.heap.size w wr
  hB : w.heap.size ≤ B
  htb : B ≤ tb
  hbs : B ≤ wr.heap.size
theorem HoI.below {w : World} {B tb : Nat} {wr w1 : World} {L : List RangeD} (h : HoI w B tb wr L) (hb : Below wr.heap.size wr w1) : HoI w B tb w1 L := by
  obtain ⟨v, h1, h2⟩ := h.tab
  exact ⟨h.good, h.ch, ⟨v, (hb.block tb (Array.getElem?_eq_some_iff.1 h1).1).trans h1, h2.below hb⟩, bel_call h.bel hb, h.hB, h.htb, Nat.le_trans h.hbs hb.size⟩
theorem HoI.split {w : World} {B tb : Nat} {wr w1 : World} {v : Value} {L : List RangeD} {id other : Int} {key : List Int} {e : Ending} (h : HoI w B tb wr L) (ht : wr.heap[tb]? = some (.cells #[v] 80 (0, 0))) (ho : OwnRgs wr B v L) (hs : SplitP B tb v (splitE L id other key) (splitR L id other key) wr e w1) : HoI w B tb w1 (splitR L id other key) := by
  obtain ⟨-, v2, h1, h2, h3, -⟩ := hs
  refine ⟨good_split h.good _ _ _, ch_splitR h.ch, ⟨v2, h1, h2⟩, h.bel.trans (h3.below (Nat.le_trans h.hB h.hbs) fun b hb hs => ?_), h.hB, h.htb, Nat.le_trans h.hbs h3.size⟩
  rcases hs with rfl | hs
  · have := h.htb; have := h.hB; omega
  · have := (ho.typed b hs).1; have := h.hB; omega
theorem HoI.start {w w1 : World} (hb1 : Below w.heap.size w w1) : HoI w w1.heap.size (w1.heap.size + 1) (newW w1) [(1, [], [], 1)] :=
  ⟨good_new, ch_new, ⟨_, new_tab w1, new_own w1⟩, bel_call hb1 (newW_below w1), hb1.size, by omega, by rw [newW_size]; omega⟩
set_option maxRecDepth 100000 in
set_option maxHeartbeats 8000000 in
theorem holds_walk (sv kv pfv ptv : Value) (sc : List ScD) (key pf pt : List Int) (w : World) (hs : IsSc w sv sc) (hk : IsB w kv key) (hpf : IsB w pfv pf) (hpt : IsB w ptv pt) (l1 : pf.length ≤ 140737488355328) (l2 : pt.length ≤ 140737488355328) :
    Calls Try.prog 4 #[sv, kv, .agg #[pfv, ptv]] w (Ret (.bool true) w) := by
  obtain ⟨so, scap, rfl, -, -, -⟩ := hs.form
  obtain ⟨ko, kc, rfl, -, -, -⟩ := hk.form
  obtain ⟨fo, fc, rfl, -, -, -⟩ := hpf.form
  obtain ⟨to, tc, rfl, -, -, -⟩ := hpt.form
  have hscm := hs.max
  obtain ⟨W0, hW0⟩ : ∃ W0, w.alloc (.cells #[.slice fo pf.length fc, .slice to pt.length tc] 25) = W0 := ⟨_, rfl⟩
  have hb0 : Below w.heap.size w W0 := hW0 ▸ bel_alloc (.refl _ w) _
  have hbx : W0.heap[w.heap.size]? = some (.cells #[.slice fo pf.length fc, .slice to pt.length tc] 25 (0, 0)) := by rw [← hW0]; exact heap_alloc_new w _
  have hlt0 : w.heap.size < W0.heap.size := (Array.getElem?_eq_some_iff.1 hbx).1
  have HB0 := Lib.hid hb0
  have HBX := Lib.hid hbx
  have HLT0 := Lib.hid hlt0
  have HSC := Lib.hid (hs.below scR_stays hb0)
  have HK := Lib.hid (hk.below hb0)
  have HF := Lib.hid (hpf.below hb0)
  have HT := Lib.hid (hpt.below hb0)
  clear hs hk hpf hpt hb0 hbx hlt0
  go_enter Try.func4, Try.ntmps4
  go_wp2_with fail
  refine (awake_any _).mono ?_
  rintro e w1 ⟨rfl, hb⟩
  have G1 := Lib.hid hb
  clear hb
  go_wp2_with fail
  refine (new_any _).mono ?_
  rintro e w2 ⟨rfl, hw2⟩
  have HI : Hid (HoI W0 w1.heap.size (w1.heap.size + 1) w2 [(1, [], [], 1)]) := Lib.hid (by rw [← hw2]; exact HoI.start G1.out)
  obtain ⟨tb, htb⟩ : ∃ tb, w1.heap.size + 1 = tb := ⟨_, rfl⟩
  rw [htb] at HI ⊢
  obtain ⟨B, hB⟩ : ∃ B, w1.heap.size = B := ⟨_, rfl⟩
  rw [hB] at HI
  clear hw2 htb hB G1
  go_wp2_with fail
  go_loopw [9] (fun i wr => ∃ (k : Nat) (L : List RangeD), i = .int .i64 k ∧ k ≤ 200 ∧ Hid (HoI W0 B tb wr L)) (fun i _ => 200 - (intOf i).toNat)
  case atStart => exact ⟨0, _, rfl, by omega, HI⟩
  case round =>
    obtain ⟨k, L, rfl, hk2, hI⟩ := hrel
    by_cases hlt : k < sc.length ∧ k < 200
    · obtain ⟨hlt1, hlt2⟩ := hlt
      obtain ⟨b, o, x, xk, rfl, hbb, hx, c0', c1', c2', hkx, hi64⟩ := IsSc.at3 HSC.out hlt1
      have c0 := (hI.out.bel.cell (p := ⟨b, o + k * 3, none⟩) hbb).trans c0'
      have c1 := (hI.out.bel.cell (p := ⟨b, o + k * 3 + 1, none⟩) hbb).trans c1'
      have c2 := (hI.out.bel.cell (p := ⟨b, o + k * 3 + 2, none⟩) hbb).trans c2'
      obtain ⟨xo, xc, rfl, -, -, -⟩ := hkx.out.form
      have hJ := hI.out.below (Below.refl _ wr).drew
      obtain ⟨v, t1, t2⟩ := hJ.tab
      have HC := Lib.hid (split_any B tb v (.slice xo x.2.2.length xc) L x.1 x.2.1 x.2.2 wr.drew hJ.htb t1 t2 hJ.good.1 hJ.good.2.1 hJ.good.2.2.2 (hkx.out.below hJ.bel) hi64.out.1 hi64.out.2 hJ.hbs)
      have HJ := Lib.hid hJ; have T1 := Lib.hid t1; have T2 := Lib.hid t2
      have hl0 : (k : Int) < sc.length := by omega
      have hl1 : 0 ≤ (k : Int) := by omega
      have hw1 := IntWalk.i64_in ((k : Int) + 1) (by omega)
      have zb1 : b < wr.heap.size := Nat.lt_of_lt_of_le hbb hI.out.bel.size
      clear c0' c1' c2' hJ t1 t2
      go_wp2_with fail
      refine wp_region_T (fun w' => Below wr.heap.size wr w') [16] (by kernel_rfl) ?_ (fun hS9 => ?_)
      · exact (Below.refl _ _).drew
      refine wpAnyT_take (i := 0) rfl (by kernel_rfl) (by kernel_rfl) (by kernel_rfl) (by kernel_rfl) (by kernel_rfl) (by rfl) hS9 ?_; apply Exists.intro; refine ⟨fun _ _ _ h => h, fun w9 hT9 => ?_, ?_⟩
      · (try dsimp only at hT9); go_simp; first | done | with_reducible rfl | rfl
      simp only [Act.put, List.setIfInBounds_toArray, List.set_cons_succ, List.set_cons_zero]
      refine wpAnyT_take (i := 1) rfl (by kernel_rfl) (by kernel_rfl) (by kernel_rfl) (by kernel_rfl) (by kernel_rfl) (by rfl) hS9 ?_; apply Exists.intro; refine ⟨fun _ _ _ h => h, fun w9 hT9 => ?_, ?_⟩
      · (try dsimp only at hT9); go_simp; first | done | with_reducible rfl | rfl
      simp only [Act.put, List.setIfInBounds_toArray, List.set_cons_succ, List.set_cons_zero]
      refine wpAnyT_take (i := 2) rfl (by kernel_rfl) (by kernel_rfl) (by kernel_rfl) (by kernel_rfl) (by kernel_rfl) (by rfl) hS9 ?_; apply Exists.intro; refine ⟨fun _ _ _ h => h, fun w9 hT9 => ?_, ?_⟩
      · (try dsimp only at hT9); go_simp; first | done | with_reducible rfl | rfl
      simp only [Act.put, List.setIfInBounds_toArray, List.set_cons_succ, List.set_cons_zero]
      refine wpAnyT_take (i := 3) rfl (by kernel_rfl) (by kernel_rfl) (by kernel_rfl) (by kernel_rfl) (by kernel_rfl) (by rfl) hS9 ?_; apply Exists.intro; refine ⟨fun _ _ _ h => h, fun w9 hT9 => ?_, ?_⟩
      · (try dsimp only at hT9); go_simp; first | done | with_reducible rfl | rfl
      simp only [Act.put, List.setIfInBounds_toArray, List.set_cons_succ, List.set_cons_zero]
      refine wpAnyT_take (i := 4) rfl (by kernel_rfl) (by kernel_rfl) (by kernel_rfl) (by kernel_rfl) (by kernel_rfl) (by rfl) hS9 ?_; apply Exists.intro; refine ⟨fun _ _ _ h => h, fun w9 hT9 => ?_, ?_⟩
      · (try dsimp only at hT9); go_simp; first | done | with_reducible rfl | rfl
      simp only [Act.put, List.setIfInBounds_toArray, List.set_cons_succ, List.set_cons_zero]
      refine wpAnyT_take (i := 5) rfl (by kernel_rfl) (by kernel_rfl) (by kernel_rfl) (by kernel_rfl) (by kernel_rfl) (by rfl) hS9 ?_; apply Exists.intro; refine ⟨fun _ _ _ h => h, fun w9 hT9 => ?_, ?_⟩
      · (try dsimp only at hT9); obtain ⟨hcc9, hff9⟩ := bcell hT9; go_simp; first | done | with_reducible rfl | rfl
      simp only [Act.put, List.setIfInBounds_toArray, List.set_cons_succ, List.set_cons_zero]
      refine wpAnyT_take (i := 6) rfl (by kernel_rfl) (by kernel_rfl) (by kernel_rfl) (by kernel_rfl) (by kernel_rfl) (by rfl) hS9 ?_; apply Exists.intro; refine ⟨fun _ _ _ h => h, fun w9 hT9 => ?_, ?_⟩
      · (try dsimp only at hT9); go_simp; first | done | with_reducible rfl | rfl
      simp only [Act.put, List.setIfInBounds_toArray, List.set_cons_succ, List.set_cons_zero]
      refine wpAnyT_take (i := 7) rfl (by kernel_rfl) (by kernel_rfl) (by kernel_rfl) (by kernel_rfl) (by kernel_rfl) (by rfl) hS9 ?_; apply Exists.intro; refine ⟨fun _ _ _ h => h, fun w9 hT9 => ?_, ?_⟩
      · (try dsimp only at hT9); go_simp; first | done | with_reducible rfl | rfl
      simp only [Act.put, List.setIfInBounds_toArray, List.set_cons_succ, List.set_cons_zero]
      refine wpAnyT_take (i := 8) rfl (by kernel_rfl) (by kernel_rfl) (by kernel_rfl) (by kernel_rfl) (by kernel_rfl) (by rfl) hS9 ?_; apply Exists.intro; refine ⟨fun _ _ _ h => h, fun w9 hT9 => ?_, ?_⟩
      · (try dsimp only at hT9); go_simp; first | done | with_reducible rfl | rfl
      simp only [Act.put, List.setIfInBounds_toArray, List.set_cons_succ, List.set_cons_zero]
      refine wpAnyT_take (i := 9) rfl (by kernel_rfl) (by kernel_rfl) (by kernel_rfl) (by kernel_rfl) (by kernel_rfl) (by rfl) hS9 ?_; apply Exists.intro; refine ⟨fun _ _ _ h => h, fun w9 hT9 => ?_, ?_⟩
      · (try dsimp only at hT9); go_simp; first | done | with_reducible rfl | rfl
      simp only [Act.put, List.setIfInBounds_toArray, List.set_cons_succ, List.set_cons_zero]
      refine wpAnyT_take (i := 10) rfl (by kernel_rfl) (by kernel_rfl) (by kernel_rfl) (by kernel_rfl) (by kernel_rfl) (by rfl) hS9 ?_; apply Exists.intro; refine ⟨fun _ _ _ h => h, fun w9 hT9 => ?_, ?_⟩
      · (try dsimp only at hT9); obtain ⟨hcc9, hff9⟩ := bcell hT9; go_simp; first | done | with_reducible rfl | rfl
      simp only [Act.put, List.setIfInBounds_toArray, List.set_cons_succ, List.set_cons_zero]
      refine wpAnyT_take (i := 11) rfl (by kernel_rfl) (by kernel_rfl) (by kernel_rfl) (by kernel_rfl) (by kernel_rfl) (by rfl) hS9 ?_; apply Exists.intro; refine ⟨fun _ _ _ h => h, fun w9 hT9 => ?_, ?_⟩
      · (try dsimp only at hT9); go_simp; first | done | with_reducible rfl | rfl
      simp only [Act.put, List.setIfInBounds_toArray, List.set_cons_succ, List.set_cons_zero]
      refine wpAnyT_take (i := 12) rfl (by kernel_rfl) (by kernel_rfl) (by kernel_rfl) (by kernel_rfl) (by kernel_rfl) (by rfl) hS9 ?_; apply Exists.intro; refine ⟨fun _ _ _ h => h, fun w9 hT9 => ?_, ?_⟩
      · (try dsimp only at hT9); go_simp; first | done | with_reducible rfl | rfl
      simp only [Act.put, List.setIfInBounds_toArray, List.set_cons_succ, List.set_cons_zero]
      refine wpAnyT_take (i := 13) rfl (by kernel_rfl) (by kernel_rfl) (by kernel_rfl) (by kernel_rfl) (by kernel_rfl) (by rfl) hS9 ?_; apply Exists.intro; refine ⟨fun _ _ _ h => h, fun w9 hT9 => ?_, ?_⟩
      · (try dsimp only at hT9); go_simp; first | done | with_reducible rfl | rfl
      simp only [Act.put, List.setIfInBounds_toArray, List.set_cons_succ, List.set_cons_zero]
      refine wpAnyT_take (i := 14) rfl (by kernel_rfl) (by kernel_rfl) (by kernel_rfl) (by kernel_rfl) (by kernel_rfl) (by rfl) hS9 ?_; apply Exists.intro; refine ⟨fun _ _ _ h => h, fun w9 hT9 => ?_, ?_⟩
      · (try dsimp only at hT9); go_simp; first | done | with_reducible rfl | rfl
      simp only [Act.put, List.setIfInBounds_toArray, List.set_cons_succ, List.set_cons_zero]
      refine wpAnyT_take (i := 15) rfl (by kernel_rfl) (by kernel_rfl) (by kernel_rfl) (by kernel_rfl) (by kernel_rfl) (by rfl) hS9 ?_; apply Exists.intro; refine ⟨fun _ _ _ h => h, fun w9 hT9 => ?_, ?_⟩
      · (try dsimp only at hT9); obtain ⟨hcc9, hff9⟩ := bcell hT9; go_simp; first | done | with_reducible rfl | rfl
      simp only [Act.put, List.setIfInBounds_toArray, List.set_cons_succ, List.set_cons_zero]
      refine wpAnyT_free (i := 16) rfl (by kernel_rfl) (by kernel_rfl) (fun K9 hK9 => ?_)
      go_simp; (with_reducible refine Calls.mono HC.out ?_); intro e w5 hsp; have HJ5 := Lib.hid (HJ.out.split T1.out T2.out hsp); obtain ⟨rfl, -⟩ := hsp
      refine hK9.out _ _ ?_; clear hK9 K9
      (try simp only [Act.put, List.setIfInBounds_toArray, List.set_cons_succ, List.set_cons_zero])
      refine wpAnyT_done (by kernel_rfl) ?_ _; have HS9 := Lib.hid hS9; clear hS9
      go_wp2_with fail
      go_roundw
      case rel => exact ⟨k + 1, _, by go_num, by omega, HJ5⟩
      case measure => simp [intOf]; omega
    · obtain ⟨v, t1, t2⟩ := hI.out.tab
      have hg := hI.out.good
      have HLI := Lib.hid (tList_any tb v L wr (by rw [cell_of_row wr tb 0 _ _ _ t1]; rfl) t2.isRgs (by have := hg.2.1; omega) (good_big hg))
      have HG := Lib.hid hg
      clear hg t1 t2
      have hdone : ¬ (k : Int) < sc.length ∨ ((k : Int) < sc.length ∧ ¬ (k : Int) < 200) := by omega
      clear hlt
      rcases hdone with hd | ⟨hd, hd'⟩
      all_goals go_wp2_with fail
      all_goals
        refine HLI.out.mono ?_
        rintro e w2 ⟨u, rfl, ho, hb⟩
        have HI2 := Lib.hid (hI.out.below hb)
        have hrg := ho.isRgs
        have HRG := Lib.hid hrg
        obtain ⟨uo, uc, rfl, -, -, -⟩ := hrg.form
        clear ho hb hrg HLI hI
        have hL32 := HG.out.2.1
        go_wp2_with fail
        go_loopw [10, 12] (fun n i wr2 => ∃ m : Nat, i = .int .i64 m ∧ m ≤ L.length ∧ n = .int .i64 ((L.take m).countP (fun x => holdsB (x.2.1, x.2.2.1) key) : Nat) ∧ Hid (Below w2.heap.size w2 wr2)) (fun _ i _ => L.length - (intOf i).toNat)
        case atStart => exact ⟨0, rfl, by omega, rfl, Lib.hid (Below.refl _ _)⟩
        case round =>
          obtain ⟨m, rfl, hm, rfl, hbel⟩ := hrel
          obtain ⟨n, hn⟩ : ∃ n, (L.take m).countP (fun x => holdsB (x.2.1, x.2.2.1) key) = n := ⟨_, rfl⟩
          have hnl : n ≤ 32 := by rw [← hn]; exact Nat.le_trans List.countP_le_length (by rw [List.length_take]; omega)
          rw [hn]
          by_cases hlt : m < L.length
          · obtain ⟨b, o, x, fv, tv, hao, hbb, hx, c0', c1', c2', c3', hfv, htv, hI64⟩ := IsRgs.at4 HRG.out hlt
            subst hao
            have c1 := (hbel.out.cell (p := ⟨b, o + m * 4 + 1, none⟩) hbb).trans c1'
            have c2 := (hbel.out.cell (p := ⟨b, o + m * 4 + 2, none⟩) hbb).trans c2'
            have HC := Lib.hid (rIn_any fv tv (.slice ko key.length kc) x.2.1 x.2.2.1 key wr (hfv.out.below hbel.out) (htv.out.below hbel.out) (HK.out.below (bel_call HI2.out.bel hbel.out)))
            have hl0 : (m : Int) < L.length := by omega
            have hl1 : 0 ≤ (m : Int) := by omega
            have hw1 := IntWalk.i64_in ((m : Int) + 1) (by omega)
            have hw2 := IntWalk.i64_in ((n : Int) + 1) (by omega)
            have hcnt : (L.take (m + 1)).countP (fun x => holdsB (x.2.1, x.2.2.1) key) = n + (if holdsB (x.2.1, x.2.2.1) key = true then 1 else 0) := by rw [take_snoc hx.out, List.countP_append, hn]; simp
            have HCNT := Lib.hid hcnt
            clear c0' c1' c2' c3' hcnt
            go_wp2_with fail
            refine HC.out.mono ?_
            rintro e w3 ⟨rfl, hb⟩
            have HB3 := Lib.hid (bel_call hbel.out hb)
            clear hb
            cases q : holdsB (x.2.1, x.2.2.1) key
            all_goals
              have hcnt := HCNT.out
              rw [q] at hcnt
              simp only [Bool.false_eq_true, if_false, if_true, Nat.add_zero] at hcnt
              have HCNT2 := Lib.hid hcnt
              clear hcnt
              go_wp2_with fail
              go_roundw
              case rel => exact ⟨m + 1, by go_num, by omega, congrArg (Value.int .i64) (by have := HCNT2.out; omega), HB3⟩
              case measure => simp [intOf]; omega
          · obtain rfl : m = L.length := by omega
            have hn1 : n = 1 := by rw [← hn, List.take_length]; exact ch_one HI2.out.ch (lexLt_none key)
            subst hn1
            have hJ := HI2.out.below hbel.out
            obtain ⟨v2, t1, t2⟩ := hJ.tab
            obtain ⟨P, hP⟩ : ∃ P, cutL L (pf, pt) = P := ⟨_, rfl⟩
            have hC := tCut_any tb v2 (.slice fo pf.length fc) (.slice to pt.length tc) L pf pt wr (by rw [cell_of_row wr tb 0 _ _ _ t1]; rfl) t2.isRgs (HF.out.below hJ.bel) (HT.out.below hJ.bel) (by omega) (good_big HG.out) l1 l2
            rw [hP] at hC
            have HCU := Lib.hid hC; have HP := Lib.hid hP
            have hs5 := (hJ.bel.block _ HLT0.out).trans HBX.out
            have s0 : wr.cell? ⟨w.heap.size, 0, none⟩ = some (.slice fo pf.length fc) := by rw [cell_of_row wr _ 0 _ _ _ hs5]; rfl
            have s1 : wr.cell? ⟨w.heap.size, 1, none⟩ = some (.slice to pt.length tc) := by rw [cell_of_row wr _ 1 _ _ _ hs5]; rfl
            have HJ := Lib.hid hJ
            clear hC hP hJ t1 t2 hs5 hn
            go_wp2_with fail
            refine HCU.out.mono ?_
            rintro e w4 ⟨pv, rfl, hp, hb⟩
            have hK := HJ.out.below hb
            have hEM := rEmpty_any (.slice fo pf.length fc) (.slice to pt.length tc) pf pt w4 (HF.out.below hK.bel) (HT.out.below hK.bel)
            have hs5 := (hK.bel.block _ HLT0.out).trans HBX.out
            have s0 : w4.cell? ⟨w.heap.size, 0, none⟩ = some (.slice fo pf.length fc) := by rw [cell_of_row w4 _ 0 _ _ _ hs5]; rfl
            have s1 : w4.cell? ⟨w.heap.size, 1, none⟩ = some (.slice to pt.length tc) := by rw [cell_of_row w4 _ 1 _ _ _ hs5]; rfl
            obtain ⟨po, pc, rfl, -, -, -⟩ := hp.form
            have HPP := Lib.hid hp; have HK4 := Lib.hid hK
            clear hp hb hK hs5 HCU HJ
            cases hem : emptyB (pf, pt) with
            | true =>
              have hP0 : P = [] := by rw [← HP.out]; exact cut_none L hem
              subst hP0
              rw [hem] at hEM
              have HEM := Lib.hid hEM
              clear hEM hem HPP HP
              go_wp2_with fail
              refine HEM.out.mono ?_
              rintro e w5 ⟨rfl, hb⟩
              have HE := Lib.hid (HB0.out.trans ((HK4.out.below hb).bel.mono HB0.out.size))
              clear hb HEM
              go_wp2_with fail
              go_ret
              exact ⟨rfl, HE.out⟩
            | false =>
              have hps : Ps pf pt P := by rw [← HP.out]; exact ch_parts HI2.out.ch hem
              obtain ⟨N, hN⟩ : ∃ N, P.length = N + 1 := ⟨P.length - 1, by have := ps_ne hps; omega⟩
              have hNs : N + 1 ≤ 32 := by rw [← hN, ← HP.out]; exact Nat.le_trans (cutL_len L _) hL32
              rw [hem] at hEM
              have HEM := Lib.hid hEM; have HPS := Lib.hid hps; have HN := Lib.hid hN
              rw [hN]
              have hz : (((N + 1 : Nat) : Int) == 0) = false := by simp; omega
              have hwN : IntKind.i64.wrap (((N + 1 : Nat) : Int) - 1) = (N : Int) := by rw [IntWalk.i64_in _ (by omega)]; omega
              clear hEM hem hps hN
              go_wp2_with fail
              refine HEM.out.mono ?_
              rintro e w5 ⟨rfl, hb⟩
              have HB5 := Lib.hid hb
              have HK5 := Lib.hid (HK4.out.below hb)
              clear hb HEM
              have hNP : 0 < P.length := by have := HN.out; omega
              have hNP2 : N < P.length := by have := HN.out; omega
              obtain ⟨b, o, q0, _, _, sf0, _, rfl, hbb, hq0, -, -, -, -, c4', -, -, -, hsf0, -⟩ := IsPts.at6 (k := 0) HPP.out hNP
              obtain ⟨b', o', q1, _, _, _, st1, hao', hbb', hq1, -, -, -, -, -, c5', -, -, -, hst1⟩ := IsPts.at6 (k := N) HPP.out hNP2
              cases hao'
              have i1 : IsB w5 sf0 pf := by have := hsf0.out.below HB5.out; rwa [ps_first HPS.out hq0.out] at this
              have i2 : IsB w5 st1 pt := by
                have := hst1.out.below HB5.out
                rwa [ps_last HPS.out (by rw [HN.out]; exact hq1.out)] at this
              have i3 : IsB w5 (.slice fo pf.length fc) pf := HF.out.below HK5.out.bel
              have i4 : IsB w5 (.slice to pt.length tc) pt := HT.out.below HK5.out.bel
              have c4 : w5.cell? ⟨b, o + 4, none⟩ = some sf0 := by have := (HB5.out.cell (p := ⟨b, o + 0 * 6 + 4, none⟩) hbb).trans c4'; simpa using this
              have c5 := (HB5.out.cell (p := ⟨b, o + N * 6 + 5, none⟩) hbb).trans c5'
              have hs5 := (HK5.out.bel.block _ HLT0.out).trans HBX.out
              have s0 : w5.cell? ⟨w.heap.size, 0, none⟩ = some (.slice fo pf.length fc) := by rw [cell_of_row w5 _ 0 _ _ _ hs5]; rfl
              have s1 : w5.cell? ⟨w.heap.size, 1, none⟩ = some (.slice to pt.length tc) := by rw [cell_of_row w5 _ 1 _ _ _ hs5]; rfl
              have k1 := fun nq => (i1.below (below_drewN (Below.refl _ w5) nq)).conv Try.underlying23 Try.underlying5 Try.underlying9
              have k2 := fun nq => (i2.below (below_drewN (Below.refl _ w5) nq)).conv Try.underlying23 Try.underlying5 Try.underlying9
              have k3 := fun nq => (i3.below (below_drewN (Below.refl _ w5) nq)).conv Try.underlying23 Try.underlying5 Try.underlying9
              have k4 := fun nq => (i4.below (below_drewN (Below.refl _ w5) nq)).conv Try.underlying23 Try.underlying5 Try.underlying9
              have e1 := str_beq i1.rng i1.rng
              have e2 := str_beq i2.rng i2.rng
              obtain ⟨fo0, fc0, rfl, -, -, -⟩ := i1.form
              obtain ⟨to1, tc1, rfl, -, -, -⟩ := i2.form
              have n1 : 0 ≤ (N : Int) := by omega
              have n2 : (N : Int) < ((N + 1 : Nat) : Int) := by omega
              have n3 : (0 : Int) < ((N + 1 : Nat) : Int) := by omega
              have HBB := Lib.hid hbb
              clear i1 i2 i3 i4 hs5 c4' c5' hsf0 hst1 hq0 hq1 hNP hNP2
              go_wp2_with fail
              go_quiet (fail)
              go_wp2_with fail
              go_loopw [17] (fun i wr => ∃ m : Nat, i = .int .i64 m ∧ m ≤ N ∧ Hid (Below w5.heap.size w5 wr)) (fun i _ => N - (intOf i).toNat)
              case atStart => exact ⟨0, rfl, by omega, Lib.hid (by first | exact below_drewN (Below.refl _ _) _ | exact Below.refl _ _)⟩
              case round =>
                obtain ⟨m, rfl, hm, hbel5⟩ := hrel
                by_cases hlt : m < N
                · have hNP : m < P.length := by have := HN.out; omega
                  have hNP2 : m + 1 < P.length := by have := HN.out; omega
                  obtain ⟨b1, o1, q0, _, _, _, st1, hao, hbb1, hq0, -, -, -, -, -, c5', -, -, -, hst1⟩ := IsPts.at6 (k := m) HPP.out hNP
                  cases hao
                  obtain ⟨b2, o2, q1, _, _, sf1, _, hao', hbb2, hq1, -, -, -, -, c4', -, -, -, hsf1, -⟩ := IsPts.at6 (k := m + 1) HPP.out hNP2
                  cases hao'
                  obtain ⟨hne, heq⟩ := ps_next HPS.out hq0.out hq1.out
                  have hbr := bel_call HB5.out hbel5.out
                  have i1 := hst1.out.below hbr
                  have i2 : IsB wr sf1 q0.2.2 := by have := hsf1.out.below hbr; rwa [← heq] at this
                  have c5 := (hbr.cell (p := ⟨b, o + m * 6 + 5, none⟩) hbb1).trans c5'
                  have d4 := (hbr.cell (p := ⟨b, o + (m + 1) * 6 + 4, none⟩) hbb1).trans c4'
                  have hz : ((q0.2.2.length : Int) == 0) = false := beq_eq_false_iff_ne.2 (by have : q0.2.2.length ≠ 0 := fun h => hne (List.eq_nil_of_length_eq_zero h); omega)
                  have k1 := fun nq => (i1.below (below_drewN (Below.refl _ wr) nq)).conv Try.underlying23 Try.underlying5 Try.underlying9
                  have k2 := fun nq => (i2.below (below_drewN (Below.refl _ wr) nq)).conv Try.underlying23 Try.underlying5 Try.underlying9
                  have e1 := str_beq i1.rng i1.rng
                  obtain ⟨fo0, fc0, rfl, -, -, -⟩ := i1.form
                  obtain ⟨to1, tc1, rfl, -, -, -⟩ := i2.form
                  have n1 : 0 ≤ (m : Int) := by omega
                  have n2 : (m : Int) < ((N + 1 : Nat) : Int) := by omega
                  have n3 : 0 ≤ (m : Int) + 1 := by omega
                  have n4 : (m : Int) + 1 < ((N + 1 : Nat) : Int) := by omega
                  have n5 : ((m : Int) + 1).toNat = m + 1 := by omega
                  have n6 : (m : Int) < (N : Int) := by omega
                  have hw := IntWalk.i64_in ((m : Int) + 1) (by omega)
                  clear i1 i2 c5' c4' hst1 hsf1 hq0 hq1 hNP hNP2 hbr hne heq
                  go_wp2_with fail
                  go_quiet (fail)
                  go_wp2_with fail
                  go_roundw
                  case rel =>
                    repeat apply Exists.intro
                    refine And.intro ?_ ?_
                    rotate_left 1
                    exact rfl
                    exact ⟨m + 1, by go_num, by omega, Lib.hid (by first | exact below_drewN hbel5.out _ | exact hbel5.out)⟩
                  case measure => simp [intOf]; omega
                · obtain rfl : m = N := by omega
                  have HE := Lib.hid (HB0.out.trans ((HK5.out.below hbel5.out).bel.mono HB0.out.size))
                  have n6 : ¬ (m : Int) < (m : Int) := by omega
                  go_wp2_with fail
                  go_ret
                  exact ⟨rfl, HE.out⟩
set_option maxRecDepth 100000 in
theorem holds_walk1 (sv kv pv : Value) (sc : List ScD) (key : List Int) (p : List Int × List Int) (w : World) (hs : IsSc w sv sc) (hk : IsB w kv key) (hp : ∃ c0 c1, pv = .agg #[c0, c1] ∧ IsB w c0 p.1 ∧ IsB w c1 p.2) (hl : p.1.length ≤ 140737488355328 ∧ p.2.length ≤ 140737488355328) :
    Calls Try.prog 4 #[sv, kv, pv] w (Ret (.bool true) w) := by
  obtain ⟨c0, c1, rfl, h0, h1⟩ := hp
  exact holds_walk sv kv c0 c1 sc key p.1 p.2 w hs hk h0 h1 hl.1 hl.2
end Rm
end Go.Proofs.Ytbeniogffhihlaa
