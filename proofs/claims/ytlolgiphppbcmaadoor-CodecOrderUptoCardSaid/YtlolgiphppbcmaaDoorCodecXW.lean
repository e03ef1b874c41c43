/- codec: the walk of TakeKeyText. -/
import Derived.Test.YtlolgiphppbcmaaDoorCodecX
namespace Go.Proofs.YtlolgiphppbcmaaDoor
open Go.RowKit
namespace Codec
def TkPost (l : List Int) (w : World) (e : Ending) (w' : World) : Prop :=
  ∃ v, e = .returned (.tuple #[v, .int .i64 (tkL l).2.1, .int .i64 (tkL l).2.2]) ∧ OwnS w' w.heap.size 5 v (tkL l).1 ∧ Below w.heap.size w w'
theorem ret_tk {v : Value} {t : List Int × Int × Int} {a : List Int} {b c : Int} (h : t = (a, b, c)) : Ending.returned (.tuple #[v, .int .i64 b, .int .i64 c]) = .returned (.tuple #[v, .int .i64 t.2.1, .int .i64 t.2.2]) := by subst h; rfl
set_option maxRecDepth 100000 in
set_option maxHeartbeats 4000000 in
theorem takeKeyText_any (v : Value) (l : List Int) (w : World) (h : IsB w v l) (hl : l.length ≤ 140737488355328) :
    Calls Tryd.prog 16 #[v] w (TkPost l w) := by
  obtain ⟨ao, cap, rfl, hnc, hcap, _⟩ := h.form
  have HB := Lib.hid h
  clear h
  obtain ⟨i0, hi0, hz0, hz1, hz2⟩ := info_parts infoU8
  have HI := Lib.hid hi0; have HZ0 := Lib.hid hz0; have HZ1 := Lib.hid hz1; have HZ2 := Lib.hid hz2
  clear hi0 hz0 hz1 hz2
  go_enter Tryd.func16, Tryd.ntmps16
  go_wp2_with fail
  go_loopw [5, 6] (fun out i wr => ∃ (k n : Nat) (o : List Int), k ≤ l.length ∧ n ≤ k ∧ i = .int .i64 k ∧ o.length = n ∧ Hid (tkL l = tkOn o k (tkL (l.drop k))) ∧ Hid (Rng o ∧ wr.ownsRow w.heap.size 5 1 out n (o.map (Value.int .u8))) ∧ Hid (Below w.heap.size w wr)) (fun _ i _ => l.length - (intOf i).toNat)
  case atStart => exact ⟨0, 0, [], by omega, by omega, rfl, rfl, (tkOn_nil (tkL_err l)).symm, ⟨Rng.nil, World.ownsRow_nil _ _ _ _⟩, Below.refl _ _⟩
  case round =>
    obtain ⟨k, n, o, hk, hn, rfl, ho, hc, hown, hbel⟩ := hrel
    have HOL := Lib.hid ho
    clear ho
    by_cases hkl : k = l.length
    · have HT : tkL l = ([], 0, 10) := by
        have := hc.out
        rw [List.drop_of_length_le (by omega)] at this
        rw [this]; rfl
      have HT := Lib.hid HT
      have hz : l.length - k = 0 := by omega
      have HB0 := Lib.hid ((HB.out.below hbel.out).cut k 0 (by omega))
      have HB1 := Lib.hid ((HB.out.below hbel.out).cut0)
      by_cases hck : cap = k
      · go_wp2_with fail
        refine (index_any _ [] 0 wr HB1.out (by decide)).mono ?_
        rintro e w1 ⟨rfl, rfl⟩
        have hi : idxI [] 0 = -1 := rfl
        rw [hi]
        clear hi
        go_wp2_with fail
        go_ret3
        exact ⟨_, ret_tk HT.out, by rw [HT.out]; exact ⟨Rng.nil, .inl ⟨rfl, rfl⟩⟩, hbel.out⟩
      · clear hkl
        go_wp2_with fail
        refine (index_any _ [] 0 wr HB0.out (by decide)).mono ?_
        rintro e w1 ⟨rfl, rfl⟩
        have hi : idxI [] 0 = -1 := rfl
        rw [hi]
        clear hi
        go_wp2_with fail
        go_ret3
        exact ⟨_, ret_tk HT.out, by rw [HT.out]; exact ⟨Rng.nil, .inl ⟨rfl, rfl⟩⟩, hbel.out⟩
    · have hkl2 : k < l.length := by omega
      have hcut := (HB.out.below hbel.out).cut k (l.length - k) (by omega)
      have e0 : (l.drop k).take (l.length - k) = l.drop k := List.take_of_length_le (by simp)
      rw [e0] at hcut
      have HC := Lib.hid hcut
      have hck : ¬ cap = k := by omega
      clear hcut e0 hkl
      go_wp2_with fail
      refine (index_any _ (l.drop k) 0 wr HC.out (by decide)).mono ?_
      rintro e w1 ⟨rfl, rfl⟩
      have hir := idxI_rng (l.drop k) 0
      rw [List.length_drop] at hir
      by_cases hneg : idxI (l.drop k) 0 = -1
      · have HT : tkL l = ([], 0, 10) := by
          rw [hc.out, tkL_none _ (idxI_none hneg)]; rfl
        have HT := Lib.hid HT
        rw [hneg]
        clear hneg hir
        go_wp2_with fail
        go_ret3
        exact ⟨_, ret_tk HT.out, by rw [HT.out]; exact ⟨Rng.nil, .inl ⟨rfl, rfl⟩⟩, hbel.out⟩
      · obtain ⟨m, hm⟩ : ∃ m : Nat, idxI (l.drop k) 0 = m := ⟨(idxI (l.drop k) 0).toNat, by omega⟩
        obtain ⟨hz0, hseg⟩ := idxI_some hm
        rw [hm]
        have hmk : k + m < l.length := by omega
        clear hneg hir hm
        have hzero : l[k + m]? = some 0 := by rw [List.getElem?_drop] at hz0; exact hz0
        have hsplit : l.drop k = (l.drop k).take m ++ 0 :: l.drop (k + m + 1) := by
          have h1 := (List.take_append_drop m (l.drop k)).symm
          rw [List.drop_drop] at h1
          have h2 : l.drop (k + m) = 0 :: l.drop (k + m + 1) := by
            obtain ⟨q1, q2⟩ := List.getElem?_eq_some_iff.1 hzero
            rw [List.drop_eq_getElem_cons q1, q2]
          rw [h2] at h1
          exact h1
        have hstep : tkL (l.drop k) = tkOn ((l.drop k).take m) m (tkL (0 :: l.drop (k + m + 1))) := by
          have h1 := tkL_skip ((l.drop k).take m) (0 :: l.drop (k + m + 1)) hseg (by simp)
          rw [← hsplit, List.length_take, List.length_drop, show min m (l.length - k) = m from by omega] at h1
          exact h1
        have HS := Lib.hid (hc.out.trans ((congrArg (tkOn o k) hstep).trans (tkOn_on _ _ _ _ _)))
        clear hz0 hseg hzero hsplit hstep
        by_cases hlast : k + m + 1 = l.length
        · have HT : tkL l = ([], 0, 10) := by
            have hd : l.drop (k + m + 1) = [] := List.drop_of_length_le (by omega)
            rw [HS.out, hd]; rfl
          have HT := Lib.hid HT
          have q1 : decide ((m : Int) < 0) = false := by simp
          have q2 : ((k : Int) + (m : Int) + 1 == (l.length : Int)) = true := by rw [beq_iff_eq]; omega
          have q3 : (k + m + 1 == l.length) = true := by rw [beq_iff_eq]; exact hlast
          clear hlast
          go_wp2_with fail
          go_ret3
          exact ⟨_, ret_tk HT.out, by rw [HT.out]; exact ⟨Rng.nil, .inl ⟨rfl, rfl⟩⟩, hbel.out⟩
        · have hy : k + m + 1 < l.length := by omega
          have q2 : ((k : Int) + (m : Int) + 1 == (l.length : Int)) = false := beq_eq_false_iff_ne.2 (by omega)
          have q3 : (k + m + 1 == l.length) = false := beq_eq_false_iff_ne.2 (by omega)
          have hsegB := (HB.out.below hbel.out).cut k m (by omega)
          have hsl : ((l.drop k).take m).length = m := by rw [List.length_take, List.length_drop]; omega
          have HSB := Lib.hid hsegB
          have HSL := Lib.hid hsl
          have hol := HOL.out
          obtain ⟨b, off, y, rfl, hb, hyx, hyc0, hy1, hy2⟩ := HB.out.at_ (k := k + m + 1) hy
          have HY0 := Lib.hid hyc0
          clear hyc0
          have hdy : l.drop (k + m + 1) = y :: l.drop (k + m + 2) := by
            obtain ⟨q1, q2⟩ := List.getElem?_eq_some_iff.1 hyx.out
            rw [List.drop_eq_getElem_cons q1, q2]
          have HD := Lib.hid hdy
          have hsegB2 : IsB wr (.slice (some ⟨b, off + k, none⟩) (k + m - k) (cap - k)) ((l.drop k).take m) := by
            have := HSB.out
            rw [Option.map_some, plain_add'] at this
            rw [show k + m - k = m from by omega]
            exact this
          have HSB2 := Lib.hid hsegB2
          have zr := hbel.out.size
          clear hlast hsegB hsl hdy hsegB2 hol
          have hT : tkL l = tkOn (o ++ (l.drop k).take m) ((k : Int) + m) (tkL (0 :: y :: l.drop (k + m + 2))) := by rw [HS.out, HD.out]
          have HRS := Lib.hid (Rng.append hown.out.1 (HB.out.rng.drop k |>.take m))
          by_cases y1 : y = 1
          · rw [y1] at hT
            have hy1b : (y == 1) = true := by rw [beq_iff_eq]; exact y1
            have HT : tkL l = (o ++ (l.drop k).take m, (k : Int) + (m + 2), 0) := by
              rw [hT, tkL]; simp [tkOn]; omega
            have HT := Lib.hid HT
            clear hT y1
            go_wp2_with (at_builtin; refine wpList_append_bytes (base := w.heap.size) (.tmp 23) (.tmp 29) _ rfl rfl i0 _ Tryd.underlying23 HI.out HZ0.out HZ1.out HZ2.out rfl (.slice (some ⟨b, off + k, none⟩) (k + m - k) (cap - k)) o ((l.drop k).take m) rfl rfl hown.out.2 HSB2.out (by have := HSL.out; omega) zr ?_; intro v1 w1 hown1 hb1; rw [HSL.out] at hown1; have HO1 := Lib.hid hown1; have HB1 := Lib.hid (hbel.out.trans hb1); clear hown1 hb1; have hyc1 : w1.cell? ⟨b, off + (k + (m + 1)), none⟩ = some (.int .u8 y) := (HB1.out.cell (p := ⟨b, off + (k + (m + 1)), none⟩) hb).trans HY0.out; have hyc2 : w1.cell? ⟨b, off + (k + (m + 2) - 1), none⟩ = some (.int .u8 y) := hyc1; obtain ⟨vo, vcap, rfl, hvn, hvc, _, _⟩ := own_form HO1.out)
            refine (clip_any vo _ vcap _ hvn hvc).mono ?_
            rintro e w2 ⟨rfl, rfl⟩
            go_wp2_with fail
            go_ret3
            refine ⟨_, ret_tk HT.out, ?_, HB1.out⟩
            rw [HT.out]
            exact (OwnS.of_own HO1.out HRS.out).clip
          · have hy1b : (y == 1) = false := beq_eq_false_iff_ne.2 y1
            by_cases y2 : y = 255
            · rw [y2] at hT
              have hy2b : (y == 255) = true := by rw [beq_iff_eq]; exact y2
              have hT2 : tkL l = tkOn (o ++ (l.drop k).take m ++ [0]) ((k + m + 2 : Nat) : Int) (tkL (l.drop (k + m + 2))) := by
                rw [hT]
                have e : tkL (0 :: 255 :: l.drop (k + m + 2)) = tkOn [0] 2 (tkL (l.drop (k + m + 2))) := by
                  rw [tkL]; unfold tkOn; simp; split <;> simp <;> omega
                rw [e, tkOn_on]
                congr 1
              have HT := Lib.hid hT2
              clear hT hT2 y1 y2
              go_wp2_with (first | (at_builtin; refine wpList_append_bytes (base := w.heap.size) (.tmp 23) (.tmp 29) _ rfl rfl i0 _ Tryd.underlying23 HI.out HZ0.out HZ1.out HZ2.out rfl (.slice (some ⟨b, off + k, none⟩) (k + m - k) (cap - k)) o ((l.drop k).take m) rfl rfl hown.out.2 HSB2.out (by have := HSL.out; omega) zr ?_; intro v1 w1 hown1 hb1; rw [HSL.out] at hown1; have HO1 := Lib.hid hown1; have HB1 := Lib.hid (hbel.out.trans hb1); clear hown1 hb1; have hyc1 : w1.cell? ⟨b, off + (k + (m + 1)), none⟩ = some (.int .u8 y) := (HB1.out.cell (p := ⟨b, off + (k + (m + 1)), none⟩) hb).trans HY0.out; have hyc2 : w1.cell? ⟨b, off + (k + (m + 2) - 1), none⟩ = some (.int .u8 y) := hyc1; obtain ⟨vo, vcap, rfl, hvn, hvc, _, _⟩ := own_form HO1.out) | (at_builtin; refine wpList_append_one (w := w1) (base := w.heap.size) (.tmp 47) (.tmp 48) _ rfl rfl i0 _ 1 Tryd.underlying23 HI.out HZ0.out HZ1.out HZ2.out rfl (.int .u8 0) rfl rfl HO1.out rfl (by omega) (by omega) HB1.out.size ?_; intro v2 w2 hown2 hb2; have HO2 := Lib.hid hown2; have HB2 := Lib.hid (HB1.out.trans hb2); clear hown2 hb2))
              go_roundw
              case rel => exact ⟨k + m + 2, n + m + 1, o ++ (l.drop k).take m ++ [0], by omega, by omega, by congr 1, by rw [List.length_append, List.length_append, HSL.out, HOL.out]; rfl, HT.out, Lib.hid ⟨HRS.out.append (Rng.cons (by decide) Rng.nil), by rw [List.map_append]; exact HO2.out⟩, HB2.out⟩
              case measure => simp [intOf]; omega
            · have hy2b : (y == 255) = false := beq_eq_false_iff_ne.2 y2
              have HT : tkL l = ([], 0, 11) := by
                rw [hT, tkL, if_pos rfl, if_neg y1, if_neg y2]; rfl
              have HT := Lib.hid HT
              clear hT y1 y2
              go_wp2_with (at_builtin; refine wpList_append_bytes (base := w.heap.size) (.tmp 23) (.tmp 29) _ rfl rfl i0 _ Tryd.underlying23 HI.out HZ0.out HZ1.out HZ2.out rfl (.slice (some ⟨b, off + k, none⟩) (k + m - k) (cap - k)) o ((l.drop k).take m) rfl rfl hown.out.2 HSB2.out (by have := HSL.out; omega) zr ?_; intro v1 w1 hown1 hb1; rw [HSL.out] at hown1; have HO1 := Lib.hid hown1; have HB1 := Lib.hid (hbel.out.trans hb1); clear hown1 hb1; have hyc1 : w1.cell? ⟨b, off + (k + (m + 1)), none⟩ = some (.int .u8 y) := (HB1.out.cell (p := ⟨b, off + (k + (m + 1)), none⟩) hb).trans HY0.out; have hyc2 : w1.cell? ⟨b, off + (k + (m + 2) - 1), none⟩ = some (.int .u8 y) := hyc1; obtain ⟨vo, vcap, rfl, hvn, hvc, _, _⟩ := own_form HO1.out)
              go_ret3
              exact ⟨_, ret_tk HT.out, by rw [HT.out]; exact ⟨Rng.nil, .inl ⟨rfl, rfl⟩⟩, HB1.out⟩
end Codec
end Go.Proofs.YtlolgiphppbcmaaDoor
