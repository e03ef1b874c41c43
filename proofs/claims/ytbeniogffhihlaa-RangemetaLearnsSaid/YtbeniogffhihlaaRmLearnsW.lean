/- rangemeta: the walk of RangemetaLearns. -/
import Derived.Test.YtbeniogffhihlaaRmLS
import Derived.Deep.DeepCutAuto
import Derived.Test.YtbeniogffhihlaaRmLoad
set_option linter.unusedVariables false
set_option linter.unusedSimpArgs false
namespace Go.Proofs.Ytbeniogffhihlaa
open Go.RowKit
namespace Rm
open PM
theorem LnI.start {w w1 w4 : World} {u : Value} (hb1 : Below w.heap.size w w1) (ho : OwnRgs w4 (freshW (newW w1)).heap.size u [(1, [], [], 1)]) (hb : Below (freshW (newW w1)).heap.size (freshW (newW w1)) w4) :
    LnI w w1.heap.size (w1.heap.size + 1) (newW w1).heap.size (.slice (some ⟨w1.heap.size, 0, none⟩) 1 1) (.slice none 0 0) w4 u [(1, [], [], 1)] [] [(1, [], [], 1)] := by
  have hn := newW_size w1
  have hnb := newW_below w1
  have hf : (freshW (newW w1)).heap.size = (newW w1).heap.size + 1 := by unfold freshW; simp
  have hfb : Below (newW w1).heap.size (newW w1) (freshW (newW w1)) := bel_alloc (.refl _ _) _
  have hnf := bel_call hfb hb
  have hcb : (freshW (newW w1)).heap[(newW w1).heap.size]? = some (.cells #[.slice none 0 0] 88 (0, 0)) := heap_alloc_new _ _
  refine ⟨(hnf.block _ (by omega)).trans (new_tab w1), (new_own w1).below hnf, (hb.block _ (by omega)).trans hcb, ⟨[], rfl, ⟨rfl, .inl ⟨rfl, rfl⟩⟩, fun s hs => (by simp at hs)⟩, ?_, fun b _ h => (by cases h), fun b hb hl => ?_, fun b h => (by cases h), bel_call (bel_call hb1 hnb) hnf, hb1.size, by omega, by omega, by have := hb.size; omega⟩
  · obtain ⟨rs, h1, h2, h3⟩ := ho
    exact ⟨rs, h1, own_mono h2 (by omega), fun r hr => by obtain ⟨a, b, c⟩ := h3 r hr; exact ⟨a.mono (by omega), b.mono (by omega), c⟩⟩
  · have hbe : w1.heap.size = b := by simpa [Value.ownBlock] using hb
    have := (ho.typed b hl).1
    omega
/-- numbers -/
def wsR (_ : World) (cs : List Value) (x : Int) : Prop := cs = [.int .i64 x] ∧ I64 x
theorem wsR_stays : Stays wsR := fun _ _ _ _ _ h => h
abbrev IsWs (w : World) (v : Value) (l : List Int) : Prop := IsL 1 wsR w v l
theorem IsWs.at1 {w : World} {ao : Option Addr} {n cap k : Nat} {l : List Int} (h : IsWs w (.slice ao n cap) l) (hk : k < l.length) :
    ∃ b o x, ao = some ⟨b, o, none⟩ ∧ b < w.heap.size ∧ Hid (l[k]? = some x) ∧ w.cell? ⟨b, o + k, none⟩ = some (.int .i64 x) ∧ Hid (I64 x) := by
  obtain ⟨b, o, x, cs, h1, h2, h3, h4, h5, rfl, h6⟩ := h.at_ hk
  exact ⟨b, o, x, h1, h2, h3, by have := h5.out 0 _ rfl; rwa [Nat.mul_one] at this, Lib.hid h6⟩
/-- sizes of all that was learned of -/
theorem hi_len {H L : List RangeD} (h : H.length ≤ 2000) (k : L.length ≤ 32) : (H.length + L.length) ≤ maxLen ∧ (H.length + L.length) * 64 ≤ 140737488355328 := ⟨by simp only [maxLen]; omega, by omega⟩
set_option maxRecDepth 100000 in
set_option maxHeartbeats 16000000 in
theorem learns_walk (sv wv kv : Value) (sc : List ScD) (ws : List Int) (key : List Int) (w : World) (hs : IsSc w sv sc) (hv : IsWs w wv ws) (hk : IsB w kv key) :
    Calls Try.prog 6 #[sv, wv, kv] w (Ret (.bool true) w) := by
  obtain ⟨so, scap, rfl, -, -, -⟩ := hs.form
  obtain ⟨wo, wcap, rfl, -, -, -⟩ := hv.form
  obtain ⟨ko, kc, rfl, -, -, -⟩ := hk.form
  have hwsm := hv.max
  have HWS := Lib.hid hv
  clear hv
  have hscm := hs.max
  obtain ⟨i0, hi0, hz0, hz1, hz2⟩ := info_parts infoRg
  have HI := Lib.hid hi0; have HZ0 := Lib.hid hz0; have HZ1 := Lib.hid hz1; have HZ2 := Lib.hid hz2
  have HSC := Lib.hid hs
  have HK := Lib.hid hk
  clear hs hk hi0 hz0 hz1 hz2
  go_enter Try.func6, Try.ntmps6
  go_wp2_with fail
  refine (awake_any _).mono ?_
  rintro e w1 ⟨rfl, hb⟩
  have G1 := Lib.hid hb
  clear hb
  go_wp2_with fail
  refine (new_any _).mono ?_
  rintro e w2 ⟨rfl, hw2⟩
  have HW2 := Lib.hid hw2
  clear hw2
  go_wp2_with fail
  refine (fresh_any _).mono ?_
  rintro e w3 ⟨rfl, hw3⟩
  have hLI := tList_any (w1.heap.size + 1) (.slice (some ⟨w1.heap.size, 0, none⟩) 1 1) [(1, [], [], 1)] w3
    (by
      have h2 := HW2.out
      subst h2 hw3
      have hfb : Below (newW w1).heap.size (newW w1) (freshW (newW w1)) := bel_alloc (.refl _ _) _
      rw [cell_of_row _ (w1.heap.size + 1) 0 _ _ _ ((hfb.block _ (by have := newW_size w1; omega)).trans (new_tab w1))]; rfl)
    (by
      have h2 := HW2.out
      subst h2 hw3
      have hfb : Below (newW w1).heap.size (newW w1) (freshW (newW w1)) := bel_alloc (.refl _ _) _
      exact ((new_own w1).below hfb).isRgs) (by simp) (good_big good_new)
  have HLI := Lib.hid hLI; have HW3 := Lib.hid hw3
  obtain ⟨tb, htb⟩ : ∃ tb, w1.heap.size + 1 = tb := ⟨_, rfl⟩
  obtain ⟨cb, hcb⟩ : ∃ cb, w2.heap.size = cb := ⟨_, rfl⟩
  rw [htb] at HLI
  rw [htb, hcb]
  have HTB := Lib.hid htb; have HCB := Lib.hid hcb
  clear hLI hw3 htb hcb
  go_wp2_with fail
  refine HLI.out.mono ?_
  rintro e w4 ⟨u, rfl, ho, hb⟩
  have HM : Hid (∃ vt vc, LnI w w1.heap.size tb cb vt vc w4 u [(1, [], [], 1)] [] [(1, [], [], 1)]) := Lib.hid (by
    have h2 := HW2.out
    have h3 := HW3.out
    have h4 := HTB.out
    have h5 := HCB.out
    subst h2
    subst h3
    subst h4
    subst h5
    exact ⟨_, _, LnI.start G1.out ho hb⟩)
  obtain ⟨B, hB⟩ : ∃ B, w1.heap.size = B := ⟨_, rfl⟩
  rw [hB] at HM
  clear ho hb hB HW2 HW3 HTB HCB HLI G1
  have HHI : Hid (Hi [(1, [], [], 1)] [(1, [], [], 1)]) := Lib.hid Hi.start
  have HFA : Hid (([(1, [], [], 1)] : List RangeD).length ≤ 1 + 32 * 0 ∧ ∀ x ∈ ([(1, [], [], 1)] : List RangeD), Fair x) := Lib.hid ⟨by simp, good_new.2.2.2⟩
  go_wp2_with fail
  go_loopw [10, 11] (fun lv i wr => ∃ (k : Nat) (L H : List RangeD), i = .int .i64 k ∧ k ≤ 60 ∧ Hid (Hi L H) ∧ Hid (H.length ≤ 1 + 32 * k ∧ ∀ x ∈ H, Fair x) ∧ Hid (∃ vt vc, LnI w B tb cb vt vc wr lv L [] H)) (fun _ i _ => 60 - (intOf i).toNat)
  case atStart => exact ⟨0, _, _, rfl, by omega, HHI, HFA, HM⟩
  case round =>
    obtain ⟨k, L, H, rfl, hk2, hHI, hFA, hM⟩ := hrel
    clear HHI HFA HM
    by_cases hlt : k < sc.length ∧ k < 60
    · obtain ⟨hlt1, hlt2⟩ := hlt
      obtain ⟨vt, vc, hI⟩ := hM.out
      obtain ⟨b, o, x, xk, rfl, hbb, hx, c0', c1', c2', hkx, hi64⟩ := IsSc.at3 HSC.out hlt1
      have c0 := (hI.bel.cell (p := ⟨b, o + k * 3, none⟩) hbb).trans c0'
      have c1 := (hI.bel.cell (p := ⟨b, o + k * 3 + 1, none⟩) hbb).trans c1'
      have c2 := (hI.bel.cell (p := ⟨b, o + k * 3 + 2, none⟩) hbb).trans c2'
      obtain ⟨xo, xc, rfl, -, -, -⟩ := hkx.out.form
      have hJ := hI.below (Below.refl _ wr).drew
      have hg := hHI.out.good
      have HC := Lib.hid (split_any B tb vt (.slice xo x.2.2.length xc) L x.1 x.2.1 x.2.2 wr.drew hJ.htb hJ.tblk hJ.town hg.1 hg.2.1 hg.2.2.2 (hkx.out.below hJ.bel) hi64.out.1 hi64.out.2 hJ.hbs)
      have HJ := Lib.hid hJ
      have hl0 : (k : Int) < sc.length := by omega
      have hl1 : 0 ≤ (k : Int) := by omega
      have hl2 : (k : Int) < 60 := by omega
      have hw1 := IntWalk.i64_in ((k : Int) + 1) (by omega)
      have zb1 : b < wr.heap.size := Nat.lt_of_lt_of_le hbb hI.bel.size
      clear c0' c1' c2' hJ hI hM hg
      go_wp2_with fail
      refine wp_region_T (fun w' => Below wr.heap.size wr w') [16] (by kernel_rfl) ?_ (fun hS9 => ?_)
      · exact (Below.refl _ _).drew
      refine wpAnyT_take (i := 0) rfl (by kernel_rfl) (by kernel_rfl) (by kernel_rfl) (by kernel_rfl) (by kernel_rfl) (by rfl) hS9 ?_; apply Exists.intro; refine ⟨fun _ _ _ h => h, fun w9 hT9 => ?_, ?_⟩
      · (try dsimp only at hT9); go_simp; first | done | with_reducible rfl | rfl
      simp only [Act.put, List.setIfInBounds_toArray, List.set_cons_succ, List.set_cons_zero]
      refine wpAnyT_take (i := 1) rfl (by kernel_rfl) (by kernel_rfl) (by kernel_rfl) (by kernel_rfl) (by kernel_rfl) (by rfl) hS9 ?_; apply Exists.intro; refine ⟨fun _ _ _ h => h, fun w9 hT9 => ?_, ?_⟩
      · (try dsimp only at hT9); go_simp; first | done | with_reducible rfl | rfl
      simp only [Act.put, List.setIfInBounds_toArray, List.set_cons_succ, List.set_cons_zero]
      refine wpAnyT_take (i := 2) rfl (by kernel_rfl) (by kernel_rfl) (by kernel_rfl) (by kernel_rfl) (by kernel_rfl) (by rfl) hS9 ?_; apply Exists.intro; refine ⟨fun _ _ _ h => h, fun w9 hT9 => ?_, ?_⟩
      · (try dsimp only at hT9); go_simp; first | done | with_reducible rfl | rfl
      simp only [Act.put, List.setIfInBounds_toArray, List.set_cons_succ, List.set_cons_zero]
      refine wpAnyT_take (i := 3) rfl (by kernel_rfl) (by kernel_rfl) (by kernel_rfl) (by kernel_rfl) (by kernel_rfl) (by rfl) hS9 ?_; apply Exists.intro; refine ⟨fun _ _ _ h => h, fun w9 hT9 => ?_, ?_⟩
      · (try dsimp only at hT9); go_simp; first | done | with_reducible rfl | rfl
      simp only [Act.put, List.setIfInBounds_toArray, List.set_cons_succ, List.set_cons_zero]
      refine wpAnyT_take (i := 4) rfl (by kernel_rfl) (by kernel_rfl) (by kernel_rfl) (by kernel_rfl) (by kernel_rfl) (by rfl) hS9 ?_; apply Exists.intro; refine ⟨fun _ _ _ h => h, fun w9 hT9 => ?_, ?_⟩
      · (try dsimp only at hT9); go_simp; first | done | with_reducible rfl | rfl
      simp only [Act.put, List.setIfInBounds_toArray, List.set_cons_succ, List.set_cons_zero]
      refine wpAnyT_take (i := 5) rfl (by kernel_rfl) (by kernel_rfl) (by kernel_rfl) (by kernel_rfl) (by kernel_rfl) (by rfl) hS9 ?_; apply Exists.intro; refine ⟨fun _ _ _ h => h, fun w9 hT9 => ?_, ?_⟩
      · (try dsimp only at hT9); obtain ⟨hcc9, hff9⟩ := bcell hT9; go_simp; first | done | with_reducible rfl | rfl
      simp only [Act.put, List.setIfInBounds_toArray, List.set_cons_succ, List.set_cons_zero]
      refine wpAnyT_take (i := 6) rfl (by kernel_rfl) (by kernel_rfl) (by kernel_rfl) (by kernel_rfl) (by kernel_rfl) (by rfl) hS9 ?_; apply Exists.intro; refine ⟨fun _ _ _ h => h, fun w9 hT9 => ?_, ?_⟩
      · (try dsimp only at hT9); go_simp; first | done | with_reducible rfl | rfl
      simp only [Act.put, List.setIfInBounds_toArray, List.set_cons_succ, List.set_cons_zero]
      refine wpAnyT_take (i := 7) rfl (by kernel_rfl) (by kernel_rfl) (by kernel_rfl) (by kernel_rfl) (by kernel_rfl) (by rfl) hS9 ?_; apply Exists.intro; refine ⟨fun _ _ _ h => h, fun w9 hT9 => ?_, ?_⟩
      · (try dsimp only at hT9); go_simp; first | done | with_reducible rfl | rfl
      simp only [Act.put, List.setIfInBounds_toArray, List.set_cons_succ, List.set_cons_zero]
      refine wpAnyT_take (i := 8) rfl (by kernel_rfl) (by kernel_rfl) (by kernel_rfl) (by kernel_rfl) (by kernel_rfl) (by rfl) hS9 ?_; apply Exists.intro; refine ⟨fun _ _ _ h => h, fun w9 hT9 => ?_, ?_⟩
      · (try dsimp only at hT9); go_simp; first | done | with_reducible rfl | rfl
      simp only [Act.put, List.setIfInBounds_toArray, List.set_cons_succ, List.set_cons_zero]
      refine wpAnyT_take (i := 9) rfl (by kernel_rfl) (by kernel_rfl) (by kernel_rfl) (by kernel_rfl) (by kernel_rfl) (by rfl) hS9 ?_; apply Exists.intro; refine ⟨fun _ _ _ h => h, fun w9 hT9 => ?_, ?_⟩
      · (try dsimp only at hT9); go_simp; first | done | with_reducible rfl | rfl
      simp only [Act.put, List.setIfInBounds_toArray, List.set_cons_succ, List.set_cons_zero]
      refine wpAnyT_take (i := 10) rfl (by kernel_rfl) (by kernel_rfl) (by kernel_rfl) (by kernel_rfl) (by kernel_rfl) (by rfl) hS9 ?_; apply Exists.intro; refine ⟨fun _ _ _ h => h, fun w9 hT9 => ?_, ?_⟩
      · (try dsimp only at hT9); obtain ⟨hcc9, hff9⟩ := bcell hT9; go_simp; first | done | with_reducible rfl | rfl
      simp only [Act.put, List.setIfInBounds_toArray, List.set_cons_succ, List.set_cons_zero]
      refine wpAnyT_take (i := 11) rfl (by kernel_rfl) (by kernel_rfl) (by kernel_rfl) (by kernel_rfl) (by kernel_rfl) (by rfl) hS9 ?_; apply Exists.intro; refine ⟨fun _ _ _ h => h, fun w9 hT9 => ?_, ?_⟩
      · (try dsimp only at hT9); go_simp; first | done | with_reducible rfl | rfl
      simp only [Act.put, List.setIfInBounds_toArray, List.set_cons_succ, List.set_cons_zero]
      refine wpAnyT_take (i := 12) rfl (by kernel_rfl) (by kernel_rfl) (by kernel_rfl) (by kernel_rfl) (by kernel_rfl) (by rfl) hS9 ?_; apply Exists.intro; refine ⟨fun _ _ _ h => h, fun w9 hT9 => ?_, ?_⟩
      · (try dsimp only at hT9); go_simp; first | done | with_reducible rfl | rfl
      simp only [Act.put, List.setIfInBounds_toArray, List.set_cons_succ, List.set_cons_zero]
      refine wpAnyT_take (i := 13) rfl (by kernel_rfl) (by kernel_rfl) (by kernel_rfl) (by kernel_rfl) (by kernel_rfl) (by rfl) hS9 ?_; apply Exists.intro; refine ⟨fun _ _ _ h => h, fun w9 hT9 => ?_, ?_⟩
      · (try dsimp only at hT9); go_simp; first | done | with_reducible rfl | rfl
      simp only [Act.put, List.setIfInBounds_toArray, List.set_cons_succ, List.set_cons_zero]
      refine wpAnyT_take (i := 14) rfl (by kernel_rfl) (by kernel_rfl) (by kernel_rfl) (by kernel_rfl) (by kernel_rfl) (by rfl) hS9 ?_; apply Exists.intro; refine ⟨fun _ _ _ h => h, fun w9 hT9 => ?_, ?_⟩
      · (try dsimp only at hT9); go_simp; first | done | with_reducible rfl | rfl
      simp only [Act.put, List.setIfInBounds_toArray, List.set_cons_succ, List.set_cons_zero]
      refine wpAnyT_take (i := 15) rfl (by kernel_rfl) (by kernel_rfl) (by kernel_rfl) (by kernel_rfl) (by kernel_rfl) (by rfl) hS9 ?_; apply Exists.intro; refine ⟨fun _ _ _ h => h, fun w9 hT9 => ?_, ?_⟩
      · (try dsimp only at hT9); obtain ⟨hcc9, hff9⟩ := bcell hT9; go_simp; first | done | with_reducible rfl | rfl
      simp only [Act.put, List.setIfInBounds_toArray, List.set_cons_succ, List.set_cons_zero]
      refine wpAnyT_free (i := 16) rfl (by kernel_rfl) (by kernel_rfl) (fun K9 hK9 => ?_)
      go_simp; (with_reducible refine Calls.mono HC.out ?_); intro e w5 hsp; have HJ5 := Lib.hid (HJ.out.split hsp); obtain ⟨rfl, -⟩ := hsp
      refine hK9.out _ _ ?_; clear hK9 K9
      (try simp only [Act.put, List.setIfInBounds_toArray, List.set_cons_succ, List.set_cons_zero])
      refine wpAnyT_done (by kernel_rfl) ?_ _; have HS9 := Lib.hid hS9; clear hS9
      obtain ⟨vt2, hJ5⟩ := HJ5.out
      obtain ⟨L2, hL2⟩ : ∃ L2, splitR L x.1 x.2.1 x.2.2 = L2 := ⟨_, rfl⟩
      have hHI2 := hHI.out.split x.1 x.2.1 x.2.2
      rw [hL2] at hJ5 hHI2
      have HHI2 := Lib.hid hHI2
      have hg2 := hHI2.good
      have HLI := Lib.hid (tList_any tb vt2 L2 w5 hJ5.tcell hJ5.town.isRgs (by have := hg2.2.1; omega) (good_big hg2))
      have HJ6 := Lib.hid hJ5
      have hl32 := hg2.2.1
      have HG2 := Lib.hid hg2
      clear hJ5 HJ5 hHI2 hg2 HC HJ c0 c1 c2
      go_wp2_with fail
      refine HLI.out.mono ?_
      rintro e w6 ⟨u2, rfl, ho, hb⟩
      have hj := HJ6.out.below hb
      obtain ⟨g2, cap2, rfl⟩ := ho.slice HG2.out.1
      obtain ⟨rs, q1, q2, q3⟩ := hj.aown
      obtain ⟨ss, p1, p2, p3⟩ := ho
      obtain ⟨la, lcap, rfl, -, -, -, -⟩ := own_form q2
      have HB6 := Lib.hid hb
      have HJ7 := Lib.hid hj
      have hbz : B ≤ w5.heap.size := HJ6.out.hbs
      have hbz6 : B ≤ w6.heap.size := hj.hbs
      have Q1 := Lib.hid q1; have Q2 := Lib.hid q2; have Q3 := Lib.hid q3; have P1 := Lib.hid p1; have P2 := Lib.hid p2; have P3 := Lib.hid p3
      have hfl := hFA.out.1
      have HSZ := Lib.hid (hi_len (H := H) (L := L2) (by omega) hl32)
      have hss : Hid ((ss.flatMap cells4).length = L2.length * 4) := Lib.hid (by rw [← p1, List.length_map, flat_len cells4_len])
      have h1s : Hid (∀ u ∈ ss.flatMap cells4, u.oneCell' = true) := Lib.hid (fun u hu => by
        obtain ⟨s, hs, hu⟩ := List.mem_flatMap.1 hu
        exact cells4_one (p3 s hs) u hu)
      clear q1 q2 q3 p1 p2 p3 hj hb HLI
      go_wp2_with (at_builtin; refine wpList_append_own_at (w := w6) rfl (.tmp 71) (.tmp 73) _ rfl B 39 i0 _ 4 64 Try.underlying29 HI.out HZ0.out HZ1.out HZ2.out rfl (by decide) (.slice la H.length lcap) H.length (rs.flatMap cells4) rfl Q2.out ⟨g2, 0, none⟩ L2.length cap2 (ss.flatMap cells4) rfl hss.out (fun j u hj => by rw [plain_add', Nat.zero_add]; exact own_cell' P2.out hj) h1s.out HSZ.out.1 HSZ.out.2 hbz6 ?_; intro v7 w7 ho7 hb7 _ hk7; have HO7 := Lib.hid ho7; have HB7 := Lib.hid hb7; have HK7 := Lib.hid hk7; clear ho7 hb7 hk7)
      have hob : (Value.slice la H.length lcap).ownBlock = (Value.slice la H.length lcap).ownBlock := rfl
      have hnew : OwnRgs w7 B v7 (H ++ L2) := by
        refine OwnRgs.join (w := w6) (B' := B) (v := .slice la H.length lcap) (u := .slice (some ⟨g2, 0, none⟩) L2.length cap2) ⟨rs, Q1.out, Q2.out, Q3.out⟩ ⟨ss, P1.out, own_mono P2.out hbz, fun s hs => ?_⟩ (Nat.le_refl _) HB7.out ⟨rs, Q1.out, Q2.out, Q3.out, rfl⟩ ⟨ss, P1.out, fun s hs => ?_, rfl⟩ HO7.out
        all_goals (obtain ⟨a, b, c⟩ := P3.out s hs; exact ⟨a.mono hbz, b.mono hbz, c⟩)
      refine ⟨⟨k + 1, L2, H ++ L2, by go_num, by omega, HHI2, Lib.hid ⟨by rw [List.length_append]; omega, fun y hy => ?_⟩, Lib.hid ⟨vt2, vc, HJ7.out.push hnew HB7.out HK7.out (Nat.le_refl _)⟩⟩, by simp [intOf]; omega⟩
      rcases List.mem_append.1 hy with hy | hy
      · exact hFA.out.2 y hy
      · exact HG2.out.2.2.2 y hy
    · have hdone : ¬ (k : Int) < sc.length ∨ ((k : Int) < sc.length ∧ ¬ (k : Int) < 60) := by omega
      clear hlt
      rcases hdone with hd | ⟨hd, hd'⟩
      all_goals go_wp2_with fail
      all_goals
        obtain ⟨vt0, vc0, hI0⟩ := hM.out
        have HC0 : Hid (Ok ([] : List RangeD) ∧ (∀ x ∈ ([] : List RangeD), x ∈ H) ∧ ([] : List RangeD).length ≤ 0) := Lib.hid ⟨ok_nil, fun x h => (by simp at h), Nat.le_refl _⟩
        have hH0 : H ≠ [] := fun h0 => by
          have hg := hHI.out.good.1
          cases L with
          | nil => exact hg rfl
          | cons y l => have := hHI.out.sub y (by simp); rw [h0] at this; simp at this
        obtain ⟨la, lcap, rfl⟩ := hI0.aown.slice hH0
        have HM0 : Hid (∃ vt vc, LnI w B tb cb vt vc wr (.slice (some ⟨la, 0, none⟩) H.length lcap) L [] H) := Lib.hid ⟨vt0, vc0, hI0⟩
        have hHl : 0 < H.length := List.length_pos_iff.2 hH0
        have hHm : H.length ≤ 2000 := by have := hFA.out.1; omega
        clear hM hI0 hH0
        go_loopw [12] (fun i wr => ∃ (m : Nat) (C : List RangeD), i = .int .i64 m ∧ m ≤ 100 ∧ Hid (Ok C ∧ (∀ x ∈ C, x ∈ H) ∧ C.length ≤ m) ∧ Hid (∃ vt vc, LnI w B tb cb vt vc wr (.slice (some ⟨la, 0, none⟩) H.length lcap) L C H)) (fun i _ => 100 - (intOf i).toNat)
        case atStart => exact ⟨0, [], rfl, by omega, HC0, HM0⟩
        case round =>
          obtain ⟨m, C, rfl, hm2, hC, hM⟩ := hrel
          clear HC0 HM0
          by_cases hlt : m < ws.length ∧ m < 100
          · obtain ⟨hlt1, hlt2⟩ := hlt
            obtain ⟨vt, vc, hI⟩ := hM.out
            obtain ⟨b, o, x, rfl, hbb, hx, c0', hx64⟩ := IsWs.at1 HWS.out hlt1
            have c0 := (hI.bel.cell (p := ⟨b, o + m, none⟩) hbb).trans c0'
            have hl0 : (m : Int) < ws.length := by omega
            have hl1 : 0 ≤ (m : Int) := by omega
            have hl2 : (m : Int) < 100 := by omega
            have HJ := Lib.hid hI
            clear c0' hI hM
            obtain ⟨hix1, hix2⟩ := idx_of (x := x) hHl
            have hwx : IntKind.i64.wrap (x.tmod H.length + H.length) = x.tmod H.length + H.length := IntWalk.i64_in _ (by
              by_cases h0 : x.tmod H.length < 0
              · obtain ⟨j, h1, h2⟩ := hix2 h0; omega
              · obtain ⟨j, h1, h2⟩ := hix1 h0; omega)
            have HIX1 := Lib.hid hix1; have HIX2 := Lib.hid hix2
            clear hix1 hix2
            go_upto_if 93 with fail
            go_cut [13] (fun s13 wx => (∃ j : Nat, s13 = .int .i64 j ∧ j < H.length) ∧ wr = wx)
            case first =>
              have hx1 := HIX1.out
              have hx2 := HIX2.out
              clear HIX1 HIX2
              generalize x.tmod H.length = tm at *
              by_cases hneg : tm < 0
              · obtain ⟨j, j1, j2⟩ := hx2 hneg
                go_wp2_with fail
                go_meet
                exact ⟨⟨j, rfl, j1⟩, rfl⟩
              · obtain ⟨j, j1, rfl⟩ := hx1 hneg
                go_wp2_with fail
                go_meet
                exact ⟨⟨j, rfl, j1⟩, rfl⟩
            case rest =>
              obtain ⟨⟨j, rfl, hj⟩, rfl⟩ := hcut
              obtain ⟨R1, hR1⟩ : ∃ R1, (findF C key).getD zeroR = R1 := ⟨_, rfl⟩
              obtain ⟨e1, he1⟩ : ∃ e1, (findF C key).isSome = e1 := ⟨_, rfl⟩
              have hF1 := cFind_any cb vc (.slice ko key.length kc) C key wr HJ.out.ccell HJ.out.clt HJ.out.cown.isRgs (HK.out.below HJ.out.bel) (ok_big hC.out.1)
              rw [hR1, he1] at hF1
              have HF1 := Lib.hid hF1; have HR1 := Lib.hid hR1; have HE1 := Lib.hid he1
              have hjn : (j : Int) < H.length := by omega
              have hj0 : 0 ≤ (j : Int) := by omega
              clear hF1 hR1 he1 c0 HIX1 HIX2 hwx
              go_wp2_with fail
              refine HF1.out.mono ?_
              rintro e w2 ⟨fv, tv, rfl, h1, h2, hb⟩
              obtain ⟨fo1, fc1, rfl, -, -, -, -⟩ := h1.form
              obtain ⟨to1, tc1, rfl, -, -, -, -⟩ := h2.form
              obtain ⟨W2, hW2⟩ : ∃ W2, w2.alloc (.cells #[.int .i64 R1.1, .slice fo1 R1.2.1.length fc1, .slice to1 R1.2.2.1.length tc1, .int .i64 R1.2.2.2] 39) = W2 := ⟨_, rfl⟩
              have hbW : Below w2.heap.size w2 W2 := hW2 ▸ bel_alloc (.refl _ w2) _
              have hx2 : W2.heap[w2.heap.size]? = some (.cells #[.int .i64 R1.1, .slice fo1 R1.2.1.length fc1, .slice to1 R1.2.2.1.length tc1, .int .i64 R1.2.2.2] 39 (0, 0)) := by rw [← hW2]; exact heap_alloc_new w2 _
              have hj2 := HJ.out.below (bel_call hb hbW)
              obtain ⟨b', o', r, rfv, rtv, hao, hbb', hr, q0, q1, q2, q3, hrf, hrt, hr64⟩ := IsRgs.at4 hj2.aown.isRgs hj
              cases hao
              rw [Nat.zero_add] at q0 q1 q2 q3
              obtain ⟨ro, rc, rfl, -, -, -⟩ := hrf.out.form
              obtain ⟨so2, sc2, rfl, -, -, -⟩ := hrt.out.form
              have hrH : r ∈ H := List.mem_of_getElem? hr.out
              have hfr := hFA.out.2 r hrH
              have hLr := learn_any B cb vc (.slice ro r.2.1.length rc) (.slice so2 r.2.2.1.length sc2) C r W2 hj2.cblk hj2.cown (by have := hC.out.2.2; omega) hC.out.1.fair hC.out.1.srt hrf.out hrt.out hr64.out hj2.hbs (by have := hfr.1; omega) (by have := hfr.2.1; omega)
              have HLR := Lib.hid hLr; have HJ2 := Lib.hid hj2; have HX2 := Lib.hid hx2; have HRH := Lib.hid hrH
              have HSZ2 : Hid (∀ b, (b = cb ∨ vc.ownBlock = some b) → b < w2.heap.size) := Lib.hid (fun b hs => by
                have hz := hb.size
                rcases hs with rfl | hs
                · have := HJ.out.clt; omega
                · have := (HJ.out.cown.typed b hs).2.1; omega)
              clear hLr hj2 hx2 h1 h2 hb hbW hrf hrt hfr HF1 HJ hrH
              go_wp2_with fail
              refine HLR.out.mono ?_
              intro e w3 hsp
              obtain ⟨vc3, hj3⟩ := HJ2.out.learn hsp
              have hx3 : w3.heap[w2.heap.size]? = some (.cells #[.int .i64 R1.1, .slice fo1 R1.2.1.length fc1, .slice to1 R1.2.2.1.length tc1, .int .i64 R1.2.2.2] 39 (0, 0)) := by
                obtain ⟨-, v9, -, -, h3, -⟩ := hsp
                exact (h3.block _ (Array.getElem?_eq_some_iff.1 HX2.out).1 (fun hs => by have := HSZ2.out _ hs; omega)).trans HX2.out
              have hok3 := learn_ok r hC.out.1
              obtain ⟨C3, hC3⟩ : ∃ C3, learnL C r = C3 := ⟨_, rfl⟩
              obtain ⟨R2, hR2⟩ : ∃ R2, (findF C3 key).getD zeroR = R2 := ⟨_, rfl⟩
              obtain ⟨e2, he2⟩ : ∃ e2, (findF C3 key).isSome = e2 := ⟨_, rfl⟩
              have hnew := find_newer hC.out.1 r key HR1.out HE1.out (R2 := R2) (b2 := e2) (by rw [hC3]; exact hR2) (by rw [hC3]; exact he2)
              rw [hC3] at hj3 hok3
              have hsub3 : ∀ y ∈ C3, y ∈ H := fun y hy => by
                rw [← hC3] at hy
                rcases learn_mem hy with rfl | hy
                · exact HRH.out
                · exact hC.out.2.1 y hy
              have hln3 : C3.length ≤ m + 1 := by have := learn_len C r; have := hC.out.2.2; rw [hC3] at *; omega
              have hF2 := cFind_any cb vc3 (.slice ko key.length kc) C3 key w3 hj3.ccell hj3.clt hj3.cown.isRgs (HK.out.below hj3.bel) (ok_big hok3)
              rw [hR2, he2] at hF2
              obtain ⟨rfl, -⟩ := hsp
              have HF2 := Lib.hid hF2; have HJ3 := Lib.hid hj3; have HX3 := Lib.hid hx3; have HNW := Lib.hid hnew
              have HC3 : Hid (Ok C3 ∧ (∀ x ∈ C3, x ∈ H) ∧ C3.length ≤ m + 1) := Lib.hid ⟨hok3, hsub3, hln3⟩
              clear hF2 hj3 hx3 hnew hok3 hsub3 hln3 hC3 hR2 he2 HLR HJ2 HX2 HRH HR1 HE1 hC q0 q1 q2 q3
              go_wp2_with fail
              refine HF2.out.mono ?_
              rintro e w4 ⟨gv, uv, rfl, h1, h2, hb⟩
              obtain ⟨go1, gc1, rfl, -, -, -, -⟩ := h1.form
              obtain ⟨uo1, uc1, rfl, -, -, -, -⟩ := h2.form
              obtain ⟨W4, hW4⟩ : ∃ W4, w4.alloc (.cells #[.int .i64 R2.1, .slice go1 R2.2.1.length gc1, .slice uo1 R2.2.2.1.length uc1, .int .i64 R2.2.2.2] 39) = W4 := ⟨_, rfl⟩
              have hbW : Below w4.heap.size w4 W4 := hW4 ▸ bel_alloc (.refl _ w4) _
              have hx4 : W4.heap[w4.heap.size]? = some (.cells #[.int .i64 R2.1, .slice go1 R2.2.1.length gc1, .slice uo1 R2.2.2.1.length uc1, .int .i64 R2.2.2.2] 39 (0, 0)) := by rw [← hW4]; exact heap_alloc_new w4 _
              have hbb4 := bel_call hb hbW
              have hx3 := (hbb4.block _ (Array.getElem?_eq_some_iff.1 HX3.out).1).trans HX3.out
              have a3 : W4.cell? ⟨w2.heap.size, 2 + 1, none⟩ = some (.int .i64 R1.2.2.2) := by rw [cell_of_row W4 _ 3 _ _ _ hx3]; rfl
              have b3 : W4.cell? ⟨w4.heap.size, 2 + 1, none⟩ = some (.int .i64 R2.2.2.2) := by rw [cell_of_row W4 _ 3 _ _ _ hx4]; rfl
              have HJ4 := Lib.hid (HJ3.out.below hbb4)
              clear h1 h2 hb hbW hbb4 hx3 hx4 HF2 HJ3 HX3
              go_upto_region 21 with fail
              go_cut [126] (fun s126 wx => s126 = .bool false ∧ W4 = wx)
              case first =>
                have hgen := HNW.out
                clear HNW
                cases e1
                · go_wp2_with fail
                  all_goals
                    go_meet
                    exact ⟨rfl, rfl⟩
                · cases e2
                  · go_wp2_with fail
                    all_goals
                      go_meet
                      exact ⟨rfl, rfl⟩
                  · have hgen := hgen rfl rfl
                    have hgen2 : ¬ R2.2.2.2 < R1.2.2.2 := by omega
                    go_wp2_with fail
                    all_goals
                      go_meet
                      exact ⟨rfl, rfl⟩
              case rest =>
                obtain ⟨rfl, rfl⟩ := hcut
                have HKN := Lib.hid (known_any cb vc3 C3 W4 HJ4.out.ccell HJ4.out.cown.isRgs (by have := HC3.out.2.2; omega) (ok_big HC3.out.1))
                clear a3 b3 HNW
                go_wp2_with fail
                refine HKN.out.mono ?_
                rintro e w5 ⟨mv, rfl, ho, hb⟩
                have hrg := ho.isRgs
                obtain ⟨mo, mc, rfl, -, -, -⟩ := hrg.form
                have HRG := Lib.hid hrg
                have HJ5 := Lib.hid (HJ4.out.below hb)
                clear ho hb hrg HKN HJ4
                have hcl : C3.length ≤ 200 := by have := HC3.out.2.2; omega
                go_wp2_with fail
                go_loopw [19] (fun i wa => ∃ (p : Nat), i = .int .i64 p ∧ p ≤ C3.length ∧ Hid (Below w5.heap.size w5 wa)) (fun i _ => C3.length - (intOf i).toNat)
                case atStart => exact ⟨0, rfl, Nat.zero_le _, Lib.hid (Below.refl _ _)⟩
                case round =>
                  obtain ⟨p, rfl, hp, hB1⟩ := hrel
                  by_cases hpl : p < C3.length
                  · have hpl' : (p : Int) < C3.length := by omega
                    go_wp2_with fail
                    go_loopw [20] (fun i wb => ∃ (q : Nat), i = .int .i64 q ∧ q ≤ p ∧ Hid (Below w5.heap.size w5 wb)) (fun i _ => p - (intOf i).toNat)
                    case atStart => exact ⟨0, rfl, Nat.zero_le _, hB1⟩
                    case round =>
                      obtain ⟨q, rfl, hq, hB2⟩ := hrel
                      by_cases hql : q < p
                      · obtain ⟨b5, o5, x5, f5, t5, hao5, hb5, hx5, -, c1', c2', -, hf5, ht5, -⟩ := IsRgs.at4 HRG.out hpl
                        obtain ⟨b6, o6, x6, f6, t6, hao6, hb6, hx6, -, g1', g2', -, hf6, ht6, -⟩ := IsRgs.at4 HRG.out (show q < C3.length by omega)
                        subst hao5
                        cases hao6
                        have c1 := (hB2.out.cell (p := ⟨b5, o5 + p * 4 + 1, none⟩) hb5).trans c1'
                        have c2 := (hB2.out.cell (p := ⟨b5, o5 + p * 4 + 2, none⟩) hb5).trans c2'
                        have g1 := (hB2.out.cell (p := ⟨b5, o5 + q * 4 + 1, none⟩) hb5).trans g1'
                        have g2 := (hB2.out.cell (p := ⟨b5, o5 + q * 4 + 2, none⟩) hb5).trans g2'
                        obtain ⟨f5o, f5c, rfl, -, -, -⟩ := hf5.out.form
                        obtain ⟨t5o, t5c, rfl, -, -, -⟩ := ht5.out.form
                        obtain ⟨f6o, f6c, rfl, -, -, -⟩ := hf6.out.form
                        obtain ⟨t6o, t6c, rfl, -, -, -⟩ := ht6.out.form
                        have hMT := rMeet_any (.slice f5o x5.2.1.length f5c) (.slice t5o x5.2.2.1.length t5c) (.slice f6o x6.2.1.length f6c) (.slice t6o x6.2.2.1.length t6c) x5.2.1 x5.2.2.1 x6.2.1 x6.2.2.1 wr.drew (hf5.out.below hB2.out.drew) (ht5.out.below hB2.out.drew) (hf6.out.below hB2.out.drew) (ht6.out.below hB2.out.drew)
                        rw [ok_ix HC3.out.1 hql hx5.out hx6.out] at hMT
                        have HMT := Lib.hid hMT
                        have hq0 : 0 ≤ (q : Int) := by omega
                        have hp0 : 0 ≤ (p : Int) := by omega
                        have hqp : (q : Int) < p := by omega
                        have hqc : (q : Int) < C3.length := by omega
                        have hqc' : q < C3.length := by omega
                        have hw1 := IntWalk.i64_in ((q : Int) + 1) (by omega)
                        have zb1 : b5 < wr.heap.size := Nat.lt_of_lt_of_le hb5 hB2.out.size
                        clear c1' c2' g1' g2' hMT
                        go_wp2_with fail
                        refine wp_region_T (fun w' => Below wr.heap.size wr w') [10, 11] (by kernel_rfl) ?_ (fun hS9 => ?_)
                        · exact (Below.refl _ _).drew
                        refine wpAnyT_take (i := 0) rfl (by kernel_rfl) (by kernel_rfl) (by kernel_rfl) (by kernel_rfl) (by kernel_rfl) (by rfl) hS9 ?_; apply Exists.intro; refine ⟨fun _ _ _ h => h, fun w9 hT9 => ?_, ?_⟩
                        · (try dsimp only at hT9); go_simp; first | done | with_reducible rfl | rfl
                        simp only [Act.put, List.setIfInBounds_toArray, List.set_cons_succ, List.set_cons_zero]
                        refine wpAnyT_take (i := 1) rfl (by kernel_rfl) (by kernel_rfl) (by kernel_rfl) (by kernel_rfl) (by kernel_rfl) (by rfl) hS9 ?_; apply Exists.intro; refine ⟨fun _ _ _ h => h, fun w9 hT9 => ?_, ?_⟩
                        · (try dsimp only at hT9); go_simp; first | done | with_reducible rfl | rfl
                        simp only [Act.put, List.setIfInBounds_toArray, List.set_cons_succ, List.set_cons_zero]
                        refine wpAnyT_take (i := 2) rfl (by kernel_rfl) (by kernel_rfl) (by kernel_rfl) (by kernel_rfl) (by kernel_rfl) (by rfl) hS9 ?_; apply Exists.intro; refine ⟨fun _ _ _ h => h, fun w9 hT9 => ?_, ?_⟩
                        · (try dsimp only at hT9); go_simp; first | done | with_reducible rfl | rfl
                        simp only [Act.put, List.setIfInBounds_toArray, List.set_cons_succ, List.set_cons_zero]
                        refine wpAnyT_take (i := 3) rfl (by kernel_rfl) (by kernel_rfl) (by kernel_rfl) (by kernel_rfl) (by kernel_rfl) (by rfl) hS9 ?_; apply Exists.intro; refine ⟨fun _ _ _ h => h, fun w9 hT9 => ?_, ?_⟩
                        · (try dsimp only at hT9); go_simp; first | done | with_reducible rfl | rfl
                        simp only [Act.put, List.setIfInBounds_toArray, List.set_cons_succ, List.set_cons_zero]
                        refine wpAnyT_take (i := 4) rfl (by kernel_rfl) (by kernel_rfl) (by kernel_rfl) (by kernel_rfl) (by kernel_rfl) (by rfl) hS9 ?_; apply Exists.intro; refine ⟨fun _ _ _ h => h, fun w9 hT9 => ?_, ?_⟩
                        · (try dsimp only at hT9); obtain ⟨hcc9, hff9⟩ := bcell hT9; go_simp; first | done | with_reducible rfl | rfl
                        simp only [Act.put, List.setIfInBounds_toArray, List.set_cons_succ, List.set_cons_zero]
                        refine wpAnyT_take (i := 5) rfl (by kernel_rfl) (by kernel_rfl) (by kernel_rfl) (by kernel_rfl) (by kernel_rfl) (by rfl) hS9 ?_; apply Exists.intro; refine ⟨fun _ _ _ h => h, fun w9 hT9 => ?_, ?_⟩
                        · (try dsimp only at hT9); go_simp; first | done | with_reducible rfl | rfl
                        simp only [Act.put, List.setIfInBounds_toArray, List.set_cons_succ, List.set_cons_zero]
                        refine wpAnyT_take (i := 6) rfl (by kernel_rfl) (by kernel_rfl) (by kernel_rfl) (by kernel_rfl) (by kernel_rfl) (by rfl) hS9 ?_; apply Exists.intro; refine ⟨fun _ _ _ h => h, fun w9 hT9 => ?_, ?_⟩
                        · (try dsimp only at hT9); go_simp; first | done | with_reducible rfl | rfl
                        simp only [Act.put, List.setIfInBounds_toArray, List.set_cons_succ, List.set_cons_zero]
                        refine wpAnyT_take (i := 7) rfl (by kernel_rfl) (by kernel_rfl) (by kernel_rfl) (by kernel_rfl) (by kernel_rfl) (by rfl) hS9 ?_; apply Exists.intro; refine ⟨fun _ _ _ h => h, fun w9 hT9 => ?_, ?_⟩
                        · (try dsimp only at hT9); go_simp; first | done | with_reducible rfl | rfl
                        simp only [Act.put, List.setIfInBounds_toArray, List.set_cons_succ, List.set_cons_zero]
                        refine wpAnyT_take (i := 8) rfl (by kernel_rfl) (by kernel_rfl) (by kernel_rfl) (by kernel_rfl) (by kernel_rfl) (by rfl) hS9 ?_; apply Exists.intro; refine ⟨fun _ _ _ h => h, fun w9 hT9 => ?_, ?_⟩
                        · (try dsimp only at hT9); go_simp; first | done | with_reducible rfl | rfl
                        simp only [Act.put, List.setIfInBounds_toArray, List.set_cons_succ, List.set_cons_zero]
                        refine wpAnyT_take (i := 9) rfl (by kernel_rfl) (by kernel_rfl) (by kernel_rfl) (by kernel_rfl) (by kernel_rfl) (by rfl) hS9 ?_; apply Exists.intro; refine ⟨fun _ _ _ h => h, fun w9 hT9 => ?_, ?_⟩
                        · (try dsimp only at hT9); obtain ⟨hcc9, hff9⟩ := bcell hT9; go_simp; first | done | with_reducible rfl | rfl
                        simp only [Act.put, List.setIfInBounds_toArray, List.set_cons_succ, List.set_cons_zero]
                        refine wpAnyT_free (i := 10) rfl (by kernel_rfl) (by kernel_rfl) (fun K9 hK9 => ?_)
                        go_simp; (with_reducible refine Calls.mono HMT.out ?_); rintro e w6 ⟨rfl, hb⟩; have HB6 := Lib.hid hb
                        refine hK9.out _ _ ?_; clear hK9 K9
                        (try simp only [Act.put, List.setIfInBounds_toArray, List.set_cons_succ, List.set_cons_zero])
                        refine wpAnyT_free (i := 11) rfl (by kernel_rfl) (by kernel_rfl) (fun K9 hK9 => ?_)
                        go_simp
                        refine hK9.out _ _ ?_; clear hK9 K9
                        (try simp only [Act.put, List.setIfInBounds_toArray, List.set_cons_succ, List.set_cons_zero])
                        refine wpAnyT_done (by kernel_rfl) ?_ _; have HS9 := Lib.hid hS9; clear hS9
                        have HB7 : Hid (Below w5.heap.size w5 w6) := Lib.hid (bel_call hB2.out (bel_of_drew HB6.out))
                        go_wp2_with fail
                        exact ⟨⟨q + 1, by go_num, by omega, HB7⟩, by simp [intOf]; omega⟩
                      · obtain rfl : q = p := by omega
                        have hirr : ¬ (q : Int) < (q : Int) := by omega
                        have hw1 := IntWalk.i64_in ((q : Int) + 1) (by omega)
                        go_wp2_with fail
                        exact ⟨⟨q + 1, by go_num, by omega, hB2⟩, by simp [intOf]; omega⟩
                  · obtain rfl : p = C3.length := by omega
                    have hirr : ¬ (C3.length : Int) < (C3.length : Int) := by omega
                    have hw1 := IntWalk.i64_in ((m : Int) + 1) (by omega)
                    go_wp2_with fail
                    exact ⟨⟨m + 1, C3, by go_num, by omega, HC3, Lib.hid ⟨vt, vc3, HJ5.out.below hB1.out⟩⟩, by simp [intOf]; omega⟩
          · have hdone : ¬ (m : Int) < ws.length ∨ ((m : Int) < ws.length ∧ ¬ (m : Int) < 100) := by omega
            clear hlt
            obtain ⟨vt, vc, hI⟩ := hM.out
            have hg := hHI.out.good
            have HLI := Lib.hid (tList_any tb vt L wr hI.tcell hI.town.isRgs (by have := hg.2.1; omega) (good_big hg))
            have HJ := Lib.hid hI
            have hl32 := hg.2.1
            clear hI hg hM
            rcases hdone with hd | ⟨hd, hd'⟩
            all_goals go_wp2_with fail
            all_goals
              refine HLI.out.mono ?_
              rintro e w2 ⟨u2, rfl, ho, hb⟩
              have hs2 := HJ.out.swap ho hb
              obtain ⟨lb, lbc, rfl⟩ := ho.slice hHI.out.good.1
              have HM2 : Hid (∃ vc, LnI w B tb cb vt vc w2 (.slice (some ⟨lb, 0, none⟩) L.length lbc) L C L) := Lib.hid ⟨vc, hs2⟩
              have HC2 : Hid (Ok C ∧ (∀ x ∈ C, x ∈ H) ∧ C.length ≤ 100 + 0 ∧ ∀ x ∈ L.take 0, x ∈ C) := Lib.hid ⟨hC.out.1, hC.out.2.1, by have := hC.out.2.2; omega, fun x hx => by simp at hx⟩
              clear ho hb hs2 HLI HJ
              go_wp2_with fail
              go_loopw [23] (fun i wa => ∃ (q : Nat) (C : List RangeD), i = .int .i64 q ∧ q ≤ L.length ∧ Hid (Ok C ∧ (∀ x ∈ C, x ∈ H) ∧ C.length ≤ 100 + q ∧ ∀ x ∈ L.take q, x ∈ C) ∧ Hid (∃ vc, LnI w B tb cb vt vc wa (.slice (some ⟨lb, 0, none⟩) L.length lbc) L C L)) (fun i _ => L.length - (intOf i).toNat)
              case atStart => exact ⟨0, C, rfl, Nat.zero_le _, HC2, HM2⟩
              case round =>
                obtain ⟨q, C2, rfl, hq, hC2, hM2⟩ := hrel
                clear HC2 HM2
                by_cases hql : q < L.length
                · obtain ⟨vc2, hI2⟩ := hM2.out
                  obtain ⟨b', o', r, rfv, rtv, hao, hbb', hr, q0, q1, q2, q3, hrf, hrt, hr64⟩ := IsRgs.at4 hI2.aown.isRgs hql
                  cases hao
                  rw [Nat.zero_add] at q0 q1 q2 q3
                  obtain ⟨ro, rc, rfl, -, -, -⟩ := hrf.out.form
                  obtain ⟨so2, sc2, rfl, -, -, -⟩ := hrt.out.form
                  have hrL : r ∈ L := List.mem_of_getElem? hr.out
                  have hfr := hHI.out.good.2.2.2 r hrL
                  have hLr := learn_any B cb vc2 (.slice ro r.2.1.length rc) (.slice so2 r.2.2.1.length sc2) C2 r wr hI2.cblk hI2.cown (by have := hC2.out.2.2.1; omega) hC2.out.1.fair hC2.out.1.srt hrf.out hrt.out hr64.out hI2.hbs (by have := hfr.1; omega) (by have := hfr.2.1; omega)
                  have hlt := hHI.out.learns hC2.out.2.1 hrL
                  have hC3 : Ok (learnL C2 r) ∧ (∀ x ∈ learnL C2 r, x ∈ H) ∧ (learnL C2 r).length ≤ 100 + (q + 1) ∧ ∀ x ∈ L.take (q + 1), x ∈ learnL C2 r := by
                    refine ⟨learn_ok r hC2.out.1, fun y hy => ?_, by have := learn_len C2 r; have := hC2.out.2.2.1; omega, fun y hy => ?_⟩
                    · rcases learn_mem hy with rfl | hy
                      · exact hHI.out.sub _ hrL
                      · exact hC2.out.2.1 y hy
                    · rw [take_snoc hr.out] at hy
                      rcases List.mem_append.1 hy with hy | hy
                      · rcases hHI.out.keeps (hC2.out.2.2.2 y hy) (List.mem_of_mem_take hy) hrL with h | rfl
                        · exact h
                        · exact learn_has hlt
                      · rw [List.mem_singleton] at hy
                        subst hy
                        exact learn_has hlt
                  rw [hlt] at hLr
                  have HLR := Lib.hid hLr; have HC3 := Lib.hid hC3; have HJ2 := Lib.hid hI2
                  have hq0 : 0 ≤ (q : Int) := by omega
                  have hql' : (q : Int) < L.length := by omega
                  have hw1 := IntWalk.i64_in ((q : Int) + 1) (by omega)
                  clear hLr hlt hC3 hI2 hrf hrt hfr hrL hM2
                  go_wp2_with fail
                  refine HLR.out.mono ?_
                  intro e w3 hsp
                  have HJ3 := Lib.hid (HJ2.out.learn hsp)
                  obtain ⟨rfl, -⟩ := hsp
                  clear HLR HJ2 q0 q1 q2 q3
                  go_wp2_with fail
                  exact ⟨⟨q + 1, _, by go_num, by omega, HC3, HJ3⟩, by simp [intOf]; omega⟩
                · obtain rfl : q = L.length := by omega
                  have hirr : ¬ (L.length : Int) < (L.length : Int) := by omega
                  obtain ⟨vc2, hI2⟩ := hM2.out
                  obtain ⟨R, hR1, hR2⟩ := hHI.out.find hC2.out.1 (fun x hx => hC2.out.2.2.2 x (by rw [List.take_length]; exact hx)) key
                  have hF := cFind_any cb vc2 (.slice ko key.length kc) C2 key wr hI2.ccell hI2.clt hI2.cown.isRgs (HK.out.below hI2.bel) (ok_big hC2.out.1)
                  rw [hR2] at hF
                  have HF := Lib.hid hF; have HJ2 := Lib.hid hI2; have HR := Lib.hid hR1
                  clear hF hI2 hR1 hR2 hM2
                  go_wp2_with fail
                  refine HF.out.mono ?_
                  rintro e w3 ⟨fv, tv, rfl, h1, h2, hb⟩
                  have H1 := Lib.hid h1.isB; have H2 := Lib.hid h2.isB
                  obtain ⟨fo1, fc1, rfl, -, -, -, -⟩ := h1.form
                  obtain ⟨to1, tc1, rfl, -, -, -, -⟩ := h2.form
                  simp only [Option.getD_some] at H1 H2 ⊢
                  obtain ⟨W3, hW3⟩ : ∃ W3, w3.alloc (.cells #[.int .i64 R.1, .slice fo1 R.2.1.length fc1, .slice to1 R.2.2.1.length tc1, .int .i64 R.2.2.2] 39) = W3 := ⟨_, rfl⟩
                  have hbW : Below w3.heap.size w3 W3 := hW3 ▸ bel_alloc (.refl _ w3) _
                  have hx3 : W3.heap[w3.heap.size]? = some (.cells #[.int .i64 R.1, .slice fo1 R.2.1.length fc1, .slice to1 R.2.2.1.length tc1, .int .i64 R.2.2.2] 39 (0, 0)) := by rw [← hW3]; exact heap_alloc_new w3 _
                  have hbb3 := bel_call hb hbW
                  have hj3 := HJ2.out.below hbb3
                  have hT := tFind_any tb vt (.slice ko key.length kc) L key W3 hj3.tcell hj3.tlt hj3.town.isRgs (HK.out.below hj3.bel) (good_big hHI.out.good)
                  rw [HR.out] at hT
                  have HT := Lib.hid hT; have HJ3 := Lib.hid hj3; have HX3 := Lib.hid hx3
                  have A1 := Lib.hid (H1.out.below hbW); have A2 := Lib.hid (H2.out.below hbW)
                  clear h1 h2 hb hbW hx3 hbb3 hj3 hT HF HJ2 H1 H2
                  go_wp2_with fail
                  refine HT.out.mono ?_
                  rintro e w4 ⟨gv, uv, rfl, h1, h2, hb⟩
                  have H3 := Lib.hid h1.isB; have H4 := Lib.hid h2.isB
                  obtain ⟨go1, gc1, rfl, -, -, -, -⟩ := h1.form
                  obtain ⟨uo1, uc1, rfl, -, -, -, -⟩ := h2.form
                  simp only [Option.getD_some] at H3 H4 ⊢
                  obtain ⟨W4, hW4⟩ : ∃ W4, w4.alloc (.cells #[.int .i64 R.1, .slice go1 R.2.1.length gc1, .slice uo1 R.2.2.1.length uc1, .int .i64 R.2.2.2] 39) = W4 := ⟨_, rfl⟩
                  have hbW : Below w4.heap.size w4 W4 := hW4 ▸ bel_alloc (.refl _ w4) _
                  have hx4 : W4.heap[w4.heap.size]? = some (.cells #[.int .i64 R.1, .slice go1 R.2.1.length gc1, .slice uo1 R.2.2.1.length uc1, .int .i64 R.2.2.2] 39 (0, 0)) := by rw [← hW4]; exact heap_alloc_new w4 _
                  have hbb4 := bel_call hb hbW
                  have hx3 := (hbb4.block _ (Array.getElem?_eq_some_iff.1 HX3.out).1).trans HX3.out
                  have a0 : W4.cell? ⟨w3.heap.size, 0, none⟩ = some (.int .i64 R.1) := by rw [cell_of_row W4 _ 0 _ _ _ hx3]; rfl
                  have a1 : W4.cell? ⟨w3.heap.size, 1, none⟩ = some (.slice fo1 R.2.1.length fc1) := by rw [cell_of_row W4 _ 1 _ _ _ hx3]; rfl
                  have a2 : W4.cell? ⟨w3.heap.size, 2, none⟩ = some (.slice to1 R.2.2.1.length tc1) := by rw [cell_of_row W4 _ 2 _ _ _ hx3]; rfl
                  have a3 : W4.cell? ⟨w3.heap.size, 3, none⟩ = some (.int .i64 R.2.2.2) := by rw [cell_of_row W4 _ 3 _ _ _ hx3]; rfl
                  have b0 : W4.cell? ⟨w4.heap.size, 0, none⟩ = some (.int .i64 R.1) := by rw [cell_of_row W4 _ 0 _ _ _ hx4]; rfl
                  have b1 : W4.cell? ⟨w4.heap.size, 1, none⟩ = some (.slice go1 R.2.1.length gc1) := by rw [cell_of_row W4 _ 1 _ _ _ hx4]; rfl
                  have b2 : W4.cell? ⟨w4.heap.size, 2, none⟩ = some (.slice uo1 R.2.2.1.length uc1) := by rw [cell_of_row W4 _ 2 _ _ _ hx4]; rfl
                  have b3 : W4.cell? ⟨w4.heap.size, 3, none⟩ = some (.int .i64 R.2.2.2) := by rw [cell_of_row W4 _ 3 _ _ _ hx4]; rfl
                  have hSM := rSame_any (.slice fo1 R.2.1.length fc1) (.slice to1 R.2.2.1.length tc1) (.slice go1 R.2.1.length gc1) (.slice uo1 R.2.2.1.length uc1) R.1 R.2.2.2 R.1 R.2.2.2 R.2.1 R.2.2.1 R.2.1 R.2.2.1 W4 (A1.out.below hbb4) (A2.out.below hbb4) (H3.out.below hbW) (H4.out.below hbW)
                  rw [(sameB_iff (R.1, R.2.1, R.2.2.1, R.2.2.2) (R.1, R.2.1, R.2.2.1, R.2.2.2)).2 rfl] at hSM
                  have HSM := Lib.hid hSM
                  have HJ4 := Lib.hid (HJ3.out.below hbb4)
                  clear h1 h2 hb hbW hx3 hx4 hbb4 hSM HX3 A1 A2 HT HJ3 H3 H4
                  go_wp2_with fail
                  refine HSM.out.mono ?_
                  rintro e w5 ⟨rfl, hb⟩
                  have HE := Lib.hid (HJ4.out.below hb).bel
                  clear hb HSM HJ4 a0 a1 a2 a3 b0 b1 b2 b3
                  go_wp2_with fail
                  go_ret
                  exact ⟨rfl, HE.out⟩
abbrev wssTy : Ty := (.sl 8 (.int .i64))
theorem wssMt : Mt Try.prog wssTy (.inl 56) := ⟨_, Try.underlying56, by kernel_rfl, ⟨by decide, by kernel_rfl⟩, ⟨Try.underlying3, by kernel_rfl⟩⟩
theorem ws_of_rd {w : World} {v : Value} {l : List Int} (h : Rd w wssTy [v] l) : IsWs w v l := by
  obtain ⟨ao, cap, h1, h2, h3, h4, h5⟩ := Rd.sl' h
  simp only [List.cons.injEq, and_true] at h1
  refine ⟨ao, cap, h1, h2, h3, fun hn => ⟨List.eq_nil_of_length_eq_zero (h4 hn).1, (h4 hn).2⟩, fun i x hx => ?_⟩
  obtain ⟨b, o, cs, k1, k2, k3, k4, k5⟩ := h5 i x hx
  obtain ⟨e0, w0⟩ := Rd.int' k5
  subst e0
  exact ⟨b, o, _, k1, k2, rfl, fun j u hu => k4 j u hu, rfl, i64_of_wf w0⟩
theorem ws_open {w : World} {v : Value} {l : List Int} (h : Rd w wssTy [v] l) (_ : Fits reachBytes wssTy l) : ∃ l : List Int, IsWs w v l := ⟨_, ws_of_rd h⟩
end Rm
end Go.Proofs.Ytbeniogffhihlaa
