/- wal's statements: operations in new memory. -/
import Derived.Test.YtlfelpbcnpjneaaWalOwn
import Derived.Test.YtlfelpbcnpjneaaKit
import Derived.Test.YtlfelpbcnpjneaaWalEnc
import Derived.Deep.RegionLaw
namespace Go.Proofs.Ytlfelpbcnpjneaa
open Go.RowKit
namespace Wal
def CopyPost (l : List Opr) (w : World) (e : Ending) (w' : World) : Prop := ∃ v, e = .returned v ∧ OwnOps w' w.heap.size v l ∧ Below w.heap.size w w'
set_option maxRecDepth 100000 in
set_option maxHeartbeats 4000000 in
theorem copiedOps_any (v : Value) (l : List Opr) (w : World) (h : IsOps w v l) (hl : l.length * 56 ≤ 140737488355328) (hs : ∀ x ∈ l, x.2.1.length ≤ 140737488355328 ∧ x.2.2.length ≤ 140737488355328) :
    Calls Try.prog 14 #[v] w (CopyPost l w) := by
  have hm := h.max
  obtain ⟨ao, cap, rfl, hnc, hcap, -⟩ := h.form
  have HB := Lib.hid h
  have HSZ := Lib.hid hs
  obtain ⟨i0, hi0, hz0, hz1, hz2⟩ := info_parts infoU8
  have HI := Lib.hid hi0; have HZ0 := Lib.hid hz0; have HZ1 := Lib.hid hz1; have HZ2 := Lib.hid hz2
  obtain ⟨i1, hi1, hy0, hy1, hy2⟩ := info_parts infoOp
  have HI1 := Lib.hid hi1; have HY0 := Lib.hid hy0; have HY1 := Lib.hid hy1; have HY2 := Lib.hid hy2
  clear hi0 hz0 hz1 hz2 hi1 hy0 hy1 hy2 h hs
  go_enter Try.func14, Try.ntmps14
  go_wp2_with fail
  go_loopw [3, 4] (fun ov i wr => ∃ (k : Nat), k ≤ l.length ∧ i = .int .i64 k ∧ Hid (OwnOps wr w.heap.size ov (l.take k)) ∧ Hid (Below w.heap.size w wr)) (fun _ i _ => l.length - (intOf i).toNat)
  case atStart => exact ⟨0, by omega, rfl, OwnOps.nil _ _, Below.refl _ _⟩
  case round =>
    obtain ⟨k, hk, rfl, hown, hbel⟩ := hrel
    by_cases hlt : k < l.length
    · obtain ⟨b, o, x, kv, vv, hao, hbb, hx, c0', c1', c2', hkv, hvv⟩ := IsOps.at3 HB.out hlt
      subst hao
      have hsx := HSZ.out x (List.mem_of_getElem? hx.out)
      obtain ⟨ko, kcap, rfl, -, -, -⟩ := hkv.out.form
      obtain ⟨vo, vcap, rfl, -, -, -⟩ := hvv.out.form
      obtain ⟨d, kl, vl⟩ := x
      simp only at c0' c1' c2' hkv hvv hsx
      obtain ⟨s1, s2⟩ := hsx
      have zw := hbel.out.size
      have c0 := (hbel.out.cell (p := ⟨b, o + k * 3, none⟩) hbb).trans c0'
      have c1 := (hbel.out.cell (p := ⟨b, o + k * 3 + 1, none⟩) hbb).trans c1'
      have c2 := (hbel.out.cell (p := ⟨b, o + k * 3 + 2, none⟩) hbb).trans c2'
      have hbr : b < wr.heap.size := by omega
      have hbne : b ≠ wr.heap.size := by omega
      have hk0 : (k : Int) < l.length := by omega
      have hk1 : 0 ≤ (k : Int) := by omega
      obtain ⟨xs, hxs1, hxs2⟩ := hown.out
      have hlen : (l.take k).length = k := by rw [List.length_take]; omega
      rw [hlen] at hxs1
      have HLEN := Lib.hid hlen
      have HX1 := Lib.hid hxs1
      have HX2 := Lib.hid hxs2
      obtain ⟨oo, ocap, rfl, -, -, -, -⟩ := own_form hxs1
      have GO := Lib.hid (bel_alloc hbel.out (.cells #[.bool d, .slice none 0 0, .slice none 0 0] 43))
      have C1 := Lib.hid c1'
      have C2 := Lib.hid c2'
      clear hxs1 hxs2 c0' c1' c2' hlen
      go_wp2_with fail
      go_region_law ((refine step_of_list rfl ?_; refine wpList_append_bytes' (v := .slice none 0 0) (w := (wr.alloc (.cells #[.bool d, .slice none 0 0, .slice none 0 0] 43)).drew) (base := w.heap.size) (.tmp 19) (.tmp 24) _ rfl rfl i0 _ Try.underlying28 HI.out HZ0.out HZ1.out HZ2.out rfl _ [] kl rfl rfl (World.ownsRow_nil _ _ _ _) (show IsB (wr.alloc _) _ _ from hkv.out.below GO.out) (by omega) (show _ ≤ (wr.alloc _).heap.size by simp; omega) ?_; intro v5 w5 ho hg hb; refine list_done ?_; simp only [Nat.zero_add, List.nil_append] at ho; have HO5 := Lib.hid ho; have GB5 := Below.grown (Below.refl ((wr.alloc (.cells #[.bool d, .slice none 0 0, .slice none 0 0] 43))).heap.size (wr.alloc (.cells #[.bool d, .slice none 0 0, .slice none 0 0] 43)).drew) hg (Nat.le_refl _) (fun i hi => by cases hi); have D0w5 : w5.cell? ⟨wr.heap.size, 0, none⟩ = some (.bool d) := (GB5.cell (p := ⟨wr.heap.size, 0, none⟩) (by simp)).trans (by go_simp); have F0w5 : w5.frozen? ⟨wr.heap.size, 0, none⟩ = false := (GB5.frozen (p := ⟨wr.heap.size, 0, none⟩) (by simp)).trans (by go_simp); have D1w5 : w5.cell? ⟨wr.heap.size, 1, none⟩ = some (.slice none 0 0) := (GB5.cell (p := ⟨wr.heap.size, 1, none⟩) (by simp)).trans (by go_simp); have F1w5 : w5.frozen? ⟨wr.heap.size, 1, none⟩ = false := (GB5.frozen (p := ⟨wr.heap.size, 1, none⟩) (by simp)).trans (by go_simp); have D2w5 : w5.cell? ⟨wr.heap.size, 2, none⟩ = some (.slice none 0 0) := (GB5.cell (p := ⟨wr.heap.size, 2, none⟩) (by simp)).trans (by go_simp); have F2w5 : w5.frozen? ⟨wr.heap.size, 2, none⟩ = false := (GB5.frozen (p := ⟨wr.heap.size, 2, none⟩) (by simp)).trans (by go_simp); have G5 := Lib.hid (GO.out.drew.trans (GB5.mono (by simp; omega))); have R5 := Lib.hid ((bel_alloc (Below.refl _ wr) (.cells #[.bool d, .slice none 0 0, .slice none 0 0] 43)).drew.trans (GB5.mono (by simp))); have C15 : w5.cell? ⟨b, o + k * 3 + 1, none⟩ = some (.slice ko kl.length kcap) := (G5.out.cell (p := ⟨b, o + k * 3 + 1, none⟩) hbb).trans C1.out; have C25 : w5.cell? ⟨b, o + k * 3 + 2, none⟩ = some (.slice vo vl.length vcap) := (G5.out.cell (p := ⟨b, o + k * 3 + 2, none⟩) hbb).trans C2.out; have z5 : wr.heap.size < w5.heap.size := (by have := GB5.size; simp only [World.drew] at this; simp at this; omega); obtain ⟨o5, cap5, rfl, -, -, -, -⟩ := own_form ho; have hb' : (⟨b, o + k * 3 + 1, none⟩ : Addr).block ≠ (⟨wr.heap.size, 1, none⟩ : Addr).block := hbne; have S15 : (w5.setCell ⟨wr.heap.size, 1, none⟩ (.slice o5 kl.length cap5)).cell? ⟨b, o + k * 3 + 1, none⟩ = some (.slice ko kl.length kcap) := (by first | go_simp | (rw [World.cell?_setCell_ne]; exact C15)); have HN5 : Hid ((Value.slice o5 kl.length cap5).ownBlock ≠ some wr.heap.size) := Lib.hid (by rcases hb with e | e; exact (by rw [e]; intro hh; cases hh); exact (by rw [e]; intro hh; have := Option.some.inj hh; simp only [World.drew] at this; simp at this <;> omega)); clear ho hg hb GB5))
      all_goals (
        have G6 : Hid (Below w.heap.size w (w5.setCell ⟨wr.heap.size, 1, none⟩ (.slice o5 kl.length cap5))) := Lib.hid (G5.out.setCell (p := ⟨wr.heap.size, 1, none⟩) (by simp only; omega) _)
        have R6 := Lib.hid (R5.out.setCell (p := ⟨wr.heap.size, 1, none⟩) (Nat.le_refl _) (.slice o5 kl.length cap5))
        have HK6 : Hid ((w5.setCell ⟨wr.heap.size, 1, none⟩ (.slice o5 kl.length cap5)).ownsRow w.heap.size 5 1 (.slice o5 kl.length cap5) kl.length (kl.map (Value.int .u8))) := Lib.hid (own_set_other HO5.out HN5.out _)
        have z6 : wr.heap.size < (w5.setCell ⟨wr.heap.size, 1, none⟩ (.slice o5 kl.length cap5)).heap.size := by simpa using z5
        have E0 : (w5.setCell ⟨wr.heap.size, 1, none⟩ (.slice o5 kl.length cap5)).cell? ⟨wr.heap.size, 0, none⟩ = some (.bool d) := by go_simp
        have E1 : (w5.setCell ⟨wr.heap.size, 1, none⟩ (.slice o5 kl.length cap5)).cell? ⟨wr.heap.size, 1, none⟩ = some (.slice o5 kl.length cap5) := by go_simp
        have E2 : (w5.setCell ⟨wr.heap.size, 1, none⟩ (.slice o5 kl.length cap5)).cell? ⟨wr.heap.size, 2, none⟩ = some (.slice none 0 0) := by go_simp
        have E3 : (w5.setCell ⟨wr.heap.size, 1, none⟩ (.slice o5 kl.length cap5)).frozen? ⟨wr.heap.size, 2, none⟩ = false := by go_simp
        have S26 : (w5.setCell ⟨wr.heap.size, 1, none⟩ (.slice o5 kl.length cap5)).cell? ⟨b, o + k * 3 + 2, none⟩ = some (.slice vo vl.length vcap) := (G6.out.cell (p := ⟨b, o + k * 3 + 2, none⟩) hbb).trans C2.out
        go_wp2_with fail
        generalize (w5.setCell ⟨wr.heap.size, 1, none⟩ (.slice o5 kl.length cap5)) = w6 at *
        go_region_law ((refine step_of_list rfl ?_; refine wpList_append_bytes' (v := .slice none 0 0) (w := w6.drew) (base := w.heap.size) (.tmp 28) (.tmp 33) _ rfl rfl i0 _ Try.underlying28 HI.out HZ0.out HZ1.out HZ2.out rfl _ [] vl rfl rfl (World.ownsRow_nil _ _ _ _) (show IsB w6 _ _ from hvv.out.below G6.out) (by omega) (show _ ≤ w6.heap.size by have := G6.out.size; omega) ?_; intro v7 w7 ho hg hb; refine list_done ?_; simp only [Nat.zero_add, List.nil_append] at ho; have HO7 := Lib.hid ho; have GB7 := Below.grown (Below.refl w6.heap.size w6.drew) hg (Nat.le_refl _) (fun i hi => by cases hi); have D0w7 : w7.cell? ⟨wr.heap.size, 0, none⟩ = some (.bool d) := (GB7.cell (p := ⟨wr.heap.size, 0, none⟩) z6).trans E0; have D1w7 : w7.cell? ⟨wr.heap.size, 1, none⟩ = some (.slice o5 kl.length cap5) := (GB7.cell (p := ⟨wr.heap.size, 1, none⟩) z6).trans E1; have D2w7 : w7.cell? ⟨wr.heap.size, 2, none⟩ = some (.slice none 0 0) := (GB7.cell (p := ⟨wr.heap.size, 2, none⟩) z6).trans E2; have F2w7 : w7.frozen? ⟨wr.heap.size, 2, none⟩ = false := (GB7.frozen (p := ⟨wr.heap.size, 2, none⟩) z6).trans E3; have G7 := Lib.hid (G6.out.trans ((Below.refl _ w6).drew.trans (GB7.mono (show w.heap.size ≤ w6.heap.size from G6.out.size)))); have R7 := Lib.hid (R6.out.trans ((Below.refl _ w6).drew.trans (GB7.mono (show wr.heap.size ≤ w6.heap.size by omega)))); have HK7 := Lib.hid (own_below HK6.out (((Below.refl _ w6).drew).trans GB7)); obtain ⟨o7, cap7, rfl, -, -, -, -⟩ := own_form ho; have hb' : (⟨b, o + k * 3 + 2, none⟩ : Addr).block ≠ (⟨wr.heap.size, 2, none⟩ : Addr).block := hbne; have C27 : w7.cell? ⟨b, o + k * 3 + 2, none⟩ = some (.slice vo vl.length vcap) := (G7.out.cell (p := ⟨b, o + k * 3 + 2, none⟩) hbb).trans C2.out; have S27 : (w7.setCell ⟨wr.heap.size, 2, none⟩ (.slice o7 vl.length cap7)).cell? ⟨b, o + k * 3 + 2, none⟩ = some (.slice vo vl.length vcap) := (by go_simp); have HN7 : Hid ((Value.slice o7 vl.length cap7).ownBlock ≠ some wr.heap.size) := Lib.hid (by rcases hb with e | e; exact (by rw [e]; intro hh; cases hh); exact (by rw [e]; intro hh; have := Option.some.inj hh; simp only [World.drew] at this; omega)); clear ho hg hb GB7))
        all_goals (
          have G8 : Hid (Below w.heap.size w (w7.setCell ⟨wr.heap.size, 2, none⟩ (.slice o7 vl.length cap7))) := Lib.hid (G7.out.setCell (p := ⟨wr.heap.size, 2, none⟩) (by simp only; omega) _)
          have R8 : Hid (Below wr.heap.size wr (w7.setCell ⟨wr.heap.size, 2, none⟩ (.slice o7 vl.length cap7))) := Lib.hid (R7.out.setCell (p := ⟨wr.heap.size, 2, none⟩) (Nat.le_refl _) _)
          have z7 : wr.heap.size < w7.heap.size := World.block_lt_of_cell? w7 _ D2w7
          have HV8 : Hid (OwnS (w7.setCell ⟨wr.heap.size, 2, none⟩ (.slice o7 vl.length cap7)) w.heap.size 5 (.slice o7 vl.length cap7) vl) := Lib.hid (OwnS.of_own (own_set_other HO7.out HN7.out _) hvv.out.rng)
          have HK8 : Hid (OwnS (w7.setCell ⟨wr.heap.size, 2, none⟩ (.slice o7 vl.length cap7)) w.heap.size 5 (.slice o5 kl.length cap5) kl) := Lib.hid (OwnS.of_own (own_set_other HK7.out HN5.out _) hkv.out.rng)
          have E80 : (w7.setCell ⟨wr.heap.size, 2, none⟩ (.slice o7 vl.length cap7)).cell? ⟨wr.heap.size, 0, none⟩ = some (.bool d) := by go_simp
          have E81 : (w7.setCell ⟨wr.heap.size, 2, none⟩ (.slice o7 vl.length cap7)).cell? ⟨wr.heap.size, 1, none⟩ = some (.slice o5 kl.length cap5) := by go_simp
          have E82 : (w7.setCell ⟨wr.heap.size, 2, none⟩ (.slice o7 vl.length cap7)).cell? ⟨wr.heap.size, 2, none⟩ = some (.slice o7 vl.length cap7) := by go_simp
          have HX8 := Lib.hid (own_below HX1.out R8.out)
          have he8 : ∀ (i : Nat) (x : Opr), (l.take k)[i]? = some x → ∃ kv vv, xs[i * 3]? = some (.bool x.1) ∧ xs[i * 3 + 1]? = some kv ∧ xs[i * 3 + 2]? = some vv ∧ OwnS (w7.setCell ⟨wr.heap.size, 2, none⟩ (.slice o7 vl.length cap7)) w.heap.size 5 kv x.2.1 ∧ OwnS (w7.setCell ⟨wr.heap.size, 2, none⟩ (.slice o7 vl.length cap7)) w.heap.size 5 vv x.2.2 := fun i x hx => by
            obtain ⟨kv, vv, k1, k2, k3, k4, k5⟩ := HX2.out i x hx
            exact ⟨kv, vv, k1, k2, k3, k4.below R8.out, k5.below R8.out⟩
          have HE8 := Lib.hid he8
          clear he8
          have z8 : w.heap.size ≤ (w7.setCell ⟨wr.heap.size, 2, none⟩ (.slice o7 vl.length cap7)).heap.size := G8.out.size
          have hk63 : k < 9223372036854775807 := by omega
          have hk56 : (k + 1) * 56 ≤ 140737488355328 := by omega
          generalize (w7.setCell ⟨wr.heap.size, 2, none⟩ (.slice o7 vl.length cap7)) = w8 at *
          go_wp2_with (at_builtin; (refine wpList_append_cells (w := w8) (base := w.heap.size) (e := 43) (size := 3) (v := .slice oo k ocap) (.tmp 36) (.tmp 38) _ rfl rfl i1 _ 56 Try.underlying23 HI1.out HY0.out HY1.out HY2.out rfl (by decide) [.bool d, .slice o5 kl.length cap5, .slice o7 vl.length cap7] rfl (by intro u hu; simp at hu; rcases hu with rfl | rfl | rfl <;> rfl) rfl rfl HX8.out hk63 hk56 z8 ?_; intro v9 w9 hown9 hg9 hb9; have HO9 := Lib.hid (OwnOps.snoc (l := l.take k) (x := (d, kl, vl)) (by rw [HLEN.out]; exact HX8.out) HE8.out HK8.out HV8.out (by rw [HLEN.out]; exact hown9) hg9); have G9 := Lib.hid (bel_row G8.out hg9 (fun i hi => (HX8.out.lt i hi).1)); clear hown9 hg9 hb9))
          go_roundw
          case rel => exact ⟨k + 1, by omega, by go_num, by rw [take_snoc hx.out]; exact HO9.out, G9.out⟩
          case measure => simp [intOf]; omega))
    · have hkl : k = l.length := by omega
      subst hkl
      have hown2 := hown.out
      rw [List.take_length] at hown2
      have HO2 := Lib.hid hown2
      obtain ⟨xs, hxs, -⟩ := hown2
      obtain ⟨oo, ocap, rfl, -, -, -, -⟩ := own_form hxs
      clear hxs
      go_wp2_with fail
      go_ret
      exact ⟨_, rfl, HO2.out, hbel.out⟩
end Wal
end Go.Proofs.Ytlfelpbcnpjneaa
