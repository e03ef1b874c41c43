/- codec: TakeKeyText. codec: the walk of TakeKeyText. codec: the document's TakeKeyText. -/
import Derived.Test.YtfkemeamimcnjaaDoorBytesFn
set_option linter.unusedVariables false
set_option linter.unusedSimpArgs false
namespace Go.Proofs.YtfkemeamimcnjaaDoor
open Go.RowKit
namespace Codec
/-- reading a key's text off the front: text, how many bytes, errno -/
def tkL : List Int → List Int × Int × Int
  | [] => ([], 0, 10)
  | [x] => ([], 0, 10)
  | x :: y :: r =>
    if x = 0 then
      if y = 1 then ([], 2, 0) else if y = 255 then (if (tkL r).2.2 = 0 then (0 :: (tkL r).1, (tkL r).2.1 + 2, 0) else ([], 0, (tkL r).2.2)) else ([], 0, 11)
    else if (tkL (y :: r)).2.2 = 0 then (x :: (tkL (y :: r)).1, (tkL (y :: r)).2.1 + 1, 0) else ([], 0, (tkL (y :: r)).2.2)
/-- a text read behind one that was read -/
def tkOn (out : List Int) (at_ : Int) (t : List Int × Int × Int) : List Int × Int × Int := if t.2.2 = 0 then (out ++ t.1, at_ + t.2.1, 0) else ([], 0, t.2.2)
theorem tkOn_nil {t : List Int × Int × Int} (h : t.2.2 ≠ 0 → t = ([], 0, t.2.2)) : tkOn [] 0 t = t := by
  unfold tkOn
  split
  · rename_i h0
    obtain ⟨a, b, c⟩ := t
    simp only at h0
    subst h0
    simp
  · rename_i h0
    exact (h h0).symm
theorem tkOn_on (a b : List Int) (x y : Int) (t : List Int × Int × Int) : tkOn a x (tkOn b y t) = tkOn (a ++ b) (x + y) t := by
  unfold tkOn
  by_cases h : t.2.2 = 0
  · simp [h]; omega
  · simp [h]
theorem tkL_err : ∀ (l : List Int), (tkL l).2.2 ≠ 0 → tkL l = ([], 0, (tkL l).2.2)
  | [], _ => rfl
  | [_], _ => rfl
  | x :: y :: r, h => by
    have e : tkL (x :: y :: r) = if x = 0 then
      if y = 1 then ([], 2, 0) else if y = 255 then (if (tkL r).2.2 = 0 then (0 :: (tkL r).1, (tkL r).2.1 + 2, 0) else ([], 0, (tkL r).2.2)) else ([], 0, 11)
    else if (tkL (y :: r)).2.2 = 0 then (x :: (tkL (y :: r)).1, (tkL (y :: r)).2.1 + 1, 0) else ([], 0, (tkL (y :: r)).2.2) := by rw [tkL]
    generalize tkL (x :: y :: r) = z at *
    subst e
    split at h
    · split at h
      · simp at h
      · split at h
        · split at h
          · simp at h
          · rename_i h1 h2 h3 h4; rw [if_pos h1, if_neg h2, if_pos h3, if_neg h4]
        · rename_i h1 h2 h3; rw [if_pos h1, if_neg h2, if_neg h3]
    · split at h
      · simp at h
      · rename_i h1 h2; rw [if_neg h1, if_neg h2]
theorem tkL_skip : ∀ (s r : List Int), (∀ x ∈ s, x ≠ 0) → r ≠ [] → tkL (s ++ r) = tkOn s s.length (tkL r)
  | [], r, _, _ => (tkOn_nil (tkL_err r)).symm
  | [x], y :: r, h, _ => by
    have hx := h x (by simp)
    show tkL (x :: y :: r) = _
    rw [tkL, if_neg hx]
    unfold tkOn
    simp only [List.singleton_append, List.length_singleton]
    split
    · simp; omega
    · rfl
  | x :: z :: s, y :: r, h, hr => by
    have hx := h x (by simp)
    have ih := tkL_skip (z :: s) (y :: r) (fun a ha => h a (List.mem_cons_of_mem _ ha)) hr
    show tkL (x :: z :: (s ++ y :: r)) = _
    rw [tkL, if_neg hx]
    have e : z :: (s ++ y :: r) = (z :: s) ++ (y :: r) := rfl
    rw [e, ih]
    unfold tkOn
    by_cases h0 : (tkL (y :: r)).2.2 = 0
    · simp [h0]; omega
    · simp [h0]
/-- no zero: too short -/
theorem tkL_none : ∀ (l : List Int), (∀ x ∈ l, x ≠ 0) → tkL l = ([], 0, 10)
  | [], _ => rfl
  | [_], _ => rfl
  | x :: y :: r, h => by
    have hx := h x (by simp)
    have ih := tkL_none (y :: r) (fun a ha => h a (List.mem_cons_of_mem _ ha))
    rw [tkL, if_neg hx, ih]; simp
theorem idxI_none : ∀ {l : List Int} {c : Int}, idxI l c = -1 → ∀ x ∈ l, x ≠ c
  | [], _, _, x, hx => by simp at hx
  | y :: l, c, h, x, hx => by
    simp only [idxI] at h
    split at h
    · omega
    · rename_i hy
      have hr := idxI_rng l c
      split at h
      · rename_i h1
        cases List.mem_cons.1 hx with
        | inl e => subst e; exact hy
        | inr e => exact idxI_none h1 x e
      · omega
theorem idxI_some : ∀ {l : List Int} {c : Int} {n : Nat}, idxI l c = n → l[n]? = some c ∧ ∀ x ∈ l.take n, x ≠ c
  | [], c, n, h => by simp only [idxI] at h; omega
  | y :: l, c, n, h => by
    simp only [idxI] at h
    have hr := idxI_rng l c
    split at h
    · rename_i hy
      have : n = 0 := by omega
      subst this
      exact ⟨by simp [hy], fun x hx => by simp at hx⟩
    · rename_i hy
      split at h
      · omega
      · obtain ⟨m, rfl⟩ : ∃ m, n = m + 1 := ⟨n - 1, by omega⟩
        have ih := idxI_some (l := l) (c := c) (n := m) (by omega)
        refine ⟨by simpa using ih.1, fun x hx => ?_⟩
        rw [List.take_succ_cons] at hx
        cases List.mem_cons.1 hx with
        | inl e => subst e; exact hy
        | inr e => exact ih.2 x e
theorem tkL_rng : ∀ (l : List Int), Rng l → Rng (tkL l).1
  | [], _ => Rng.nil
  | [_], _ => Rng.nil
  | x :: y :: r, h => by
    have h1 := tkL_rng r (fun a ha => h a (by simp [ha]))
    have h2 := tkL_rng (y :: r) (fun a ha => h a (List.mem_cons_of_mem _ ha))
    rw [tkL]
    split
    · split
      · exact Rng.nil
      · split
        · split
          · exact Rng.cons (by omega) h1
          · exact Rng.nil
        · exact Rng.nil
    · split
      · exact Rng.cons (h x (by simp)) h2
      · exact Rng.nil
end Codec
end Go.Proofs.YtfkemeamimcnjaaDoor
namespace Go.Proofs.YtfkemeamimcnjaaDoor
open Go.RowKit
namespace Codec
def TkPost (l : List Int) (w : World) (e : Ending) (w' : World) : Prop :=
  ∃ v, e = .returned (.tuple #[v, .int .i64 (tkL l).2.1, .int .i64 (tkL l).2.2]) ∧ OwnS w' w.heap.size 5 v (tkL l).1 ∧ Below w.heap.size w w'
theorem ret_tk {v : Value} {t : List Int × Int × Int} {a : List Int} {b c : Int} (h : t = (a, b, c)) : Ending.returned (.tuple #[v, .int .i64 b, .int .i64 c]) = .returned (.tuple #[v, .int .i64 t.2.1, .int .i64 t.2.2]) := by subst h; rfl
set_option maxRecDepth 100000 in
set_option maxHeartbeats 4000000 in
theorem takeKeyText_any (v : Value) (l : List Int) (w : World) (h : IsB w v l) (hl : l.length ≤ 140737488355328) :
    Calls Tryd.prog 74 #[v] w (TkPost l w) := by
  obtain ⟨ao, cap, rfl, hnc, hcap, _⟩ := h.form
  have HB := Lib.hid h
  clear h
  obtain ⟨i0, hi0, hz0, hz1, hz2⟩ := info_parts infoU8
  have HI := Lib.hid hi0; have HZ0 := Lib.hid hz0; have HZ1 := Lib.hid hz1; have HZ2 := Lib.hid hz2
  clear hi0 hz0 hz1 hz2
  go_enter Tryd.func74, Tryd.ntmps74
  go_wp2_with fail
  go_loopw [5, 6] (fun out i wr => ∃ (k n : Nat) (o : List Int), k ≤ l.length ∧ n ≤ k ∧ i = .int .i64 k ∧ o.length = n ∧ Hid (tkL l = tkOn o k (tkL (l.drop k))) ∧ Hid (Rng o ∧ wr.ownsRow w.heap.size 5 1 out n (o.map (Value.int .u8))) ∧ Hid (Below w.heap.size w wr)) (fun _ i _ => l.length - (intOf i).toNat)
  case atStart => exact ⟨0, 0, [], by omega, by omega, rfl, rfl, (tkOn_nil (tkL_err l)).symm, ⟨Rng.nil, World.ownsRow_nil _ _ _ _⟩, Below.refl _ _⟩
  case round =>
    obtain ⟨k, n, o, hk, hn, rfl, ho, hc, hown, hbel⟩ := hrel
    have HOL := Lib.hid ho
    clear ho
    by_cases hkl : k = l.length
    · have HT : tkL l = ([], 0, 10) := by
        have := hc.out
        rw [List.drop_of_length_le (by omega)] at this
        rw [this]; rfl
      have HT := Lib.hid HT
      have hz : l.length - k = 0 := by omega
      have HB0 := Lib.hid ((HB.out.below hbel.out).cut k 0 (by omega))
      have HB1 := Lib.hid ((HB.out.below hbel.out).cut0)
      by_cases hck : cap = k
      · go_wp2_with fail
        refine (index_any _ [] 0 wr HB1.out (by decide)).mono ?_
        rintro e w1 ⟨rfl, rfl⟩
        have hi : idxI [] 0 = -1 := rfl
        rw [hi]
        clear hi
        go_wp2_with fail
        go_ret3
        exact ⟨_, ret_tk HT.out, by rw [HT.out]; exact ⟨Rng.nil, .inl ⟨rfl, rfl⟩⟩, hbel.out⟩
      · clear hkl
        go_wp2_with fail
        refine (index_any _ [] 0 wr HB0.out (by decide)).mono ?_
        rintro e w1 ⟨rfl, rfl⟩
        have hi : idxI [] 0 = -1 := rfl
        rw [hi]
        clear hi
        go_wp2_with fail
        go_ret3
        exact ⟨_, ret_tk HT.out, by rw [HT.out]; exact ⟨Rng.nil, .inl ⟨rfl, rfl⟩⟩, hbel.out⟩
    · have hkl2 : k < l.length := by omega
      have hcut := (HB.out.below hbel.out).cut k (l.length - k) (by omega)
      have e0 : (l.drop k).take (l.length - k) = l.drop k := List.take_of_length_le (by simp)
      rw [e0] at hcut
      have HC := Lib.hid hcut
      have hck : ¬ cap = k := by omega
      clear hcut e0 hkl
      go_wp2_with fail
      refine (index_any _ (l.drop k) 0 wr HC.out (by decide)).mono ?_
      rintro e w1 ⟨rfl, rfl⟩
      have hir := idxI_rng (l.drop k) 0
      rw [List.length_drop] at hir
      by_cases hneg : idxI (l.drop k) 0 = -1
      · have HT : tkL l = ([], 0, 10) := by
          rw [hc.out, tkL_none _ (idxI_none hneg)]; rfl
        have HT := Lib.hid HT
        rw [hneg]
        clear hneg hir
        go_wp2_with fail
        go_ret3
        exact ⟨_, ret_tk HT.out, by rw [HT.out]; exact ⟨Rng.nil, .inl ⟨rfl, rfl⟩⟩, hbel.out⟩
      · obtain ⟨m, hm⟩ : ∃ m : Nat, idxI (l.drop k) 0 = m := ⟨(idxI (l.drop k) 0).toNat, by omega⟩
        obtain ⟨hz0, hseg⟩ := idxI_some hm
        rw [hm]
        have hmk : k + m < l.length := by omega
        clear hneg hir hm
        have hzero : l[k + m]? = some 0 := by rw [List.getElem?_drop] at hz0; exact hz0
        have hsplit : l.drop k = (l.drop k).take m ++ 0 :: l.drop (k + m + 1) := by
          have h1 := (List.take_append_drop m (l.drop k)).symm
          rw [List.drop_drop] at h1
          have h2 : l.drop (k + m) = 0 :: l.drop (k + m + 1) := by
            obtain ⟨q1, q2⟩ := List.getElem?_eq_some_iff.1 hzero
            rw [List.drop_eq_getElem_cons q1, q2]
          rw [h2] at h1
          exact h1
        have hstep : tkL (l.drop k) = tkOn ((l.drop k).take m) m (tkL (0 :: l.drop (k + m + 1))) := by
          have h1 := tkL_skip ((l.drop k).take m) (0 :: l.drop (k + m + 1)) hseg (by simp)
          rw [← hsplit, List.length_take, List.length_drop, show min m (l.length - k) = m from by omega] at h1
          exact h1
        have HS := Lib.hid (hc.out.trans ((congrArg (tkOn o k) hstep).trans (tkOn_on _ _ _ _ _)))
        clear hz0 hseg hzero hsplit hstep
        by_cases hlast : k + m + 1 = l.length
        · have HT : tkL l = ([], 0, 10) := by
            have hd : l.drop (k + m + 1) = [] := List.drop_of_length_le (by omega)
            rw [HS.out, hd]; rfl
          have HT := Lib.hid HT
          have q1 : decide ((m : Int) < 0) = false := by simp
          have q2 : ((k : Int) + (m : Int) + 1 == (l.length : Int)) = true := by rw [beq_iff_eq]; omega
          have q3 : (k + m + 1 == l.length) = true := by rw [beq_iff_eq]; exact hlast
          clear hlast
          go_wp2_with fail
          go_ret3
          exact ⟨_, ret_tk HT.out, by rw [HT.out]; exact ⟨Rng.nil, .inl ⟨rfl, rfl⟩⟩, hbel.out⟩
        · have hy : k + m + 1 < l.length := by omega
          have q2 : ((k : Int) + (m : Int) + 1 == (l.length : Int)) = false := beq_eq_false_iff_ne.2 (by omega)
          have q3 : (k + m + 1 == l.length) = false := beq_eq_false_iff_ne.2 (by omega)
          have hsegB := (HB.out.below hbel.out).cut k m (by omega)
          have hsl : ((l.drop k).take m).length = m := by rw [List.length_take, List.length_drop]; omega
          have HSB := Lib.hid hsegB
          have HSL := Lib.hid hsl
          have hol := HOL.out
          obtain ⟨b, off, y, rfl, hb, hyx, hyc0, hy1, hy2⟩ := HB.out.at_ (k := k + m + 1) hy
          have HY0 := Lib.hid hyc0
          clear hyc0
          have hdy : l.drop (k + m + 1) = y :: l.drop (k + m + 2) := by
            obtain ⟨q1, q2⟩ := List.getElem?_eq_some_iff.1 hyx.out
            rw [List.drop_eq_getElem_cons q1, q2]
          have HD := Lib.hid hdy
          have hsegB2 : IsB wr (.slice (some ⟨b, off + k, none⟩) (k + m - k) (cap - k)) ((l.drop k).take m) := by
            have := HSB.out
            rw [Option.map_some, plain_add'] at this
            rw [show k + m - k = m from by omega]
            exact this
          have HSB2 := Lib.hid hsegB2
          have zr := hbel.out.size
          clear hlast hsegB hsl hdy hsegB2 hol
          have hT : tkL l = tkOn (o ++ (l.drop k).take m) ((k : Int) + m) (tkL (0 :: y :: l.drop (k + m + 2))) := by rw [HS.out, HD.out]
          have HRS := Lib.hid (Rng.append hown.out.1 (HB.out.rng.drop k |>.take m))
          by_cases y1 : y = 1
          · rw [y1] at hT
            have hy1b : (y == 1) = true := by rw [beq_iff_eq]; exact y1
            have HT : tkL l = (o ++ (l.drop k).take m, (k : Int) + (m + 2), 0) := by
              rw [hT, tkL]; simp [tkOn]; omega
            have HT := Lib.hid HT
            clear hT y1
            go_wp2_with (at_builtin; refine wpList_append_bytes (base := w.heap.size) (.tmp 23) (.tmp 29) _ rfl rfl i0 _ Tryd.underlying29 HI.out HZ0.out HZ1.out HZ2.out rfl (.slice (some ⟨b, off + k, none⟩) (k + m - k) (cap - k)) o ((l.drop k).take m) rfl rfl hown.out.2 HSB2.out (by have := HSL.out; omega) zr ?_; intro v1 w1 hown1 hb1; rw [HSL.out] at hown1; have HO1 := Lib.hid hown1; have HB1 := Lib.hid (hbel.out.trans hb1); clear hown1 hb1; have hyc1 : w1.cell? ⟨b, off + (k + (m + 1)), none⟩ = some (.int .u8 y) := (HB1.out.cell (p := ⟨b, off + (k + (m + 1)), none⟩) hb).trans HY0.out; have hyc2 : w1.cell? ⟨b, off + (k + (m + 2) - 1), none⟩ = some (.int .u8 y) := hyc1; obtain ⟨vo, vcap, rfl, hvn, hvc, _, _⟩ := own_form HO1.out)
            refine (clip_any vo _ vcap _ hvn hvc).mono ?_
            rintro e w2 ⟨rfl, rfl⟩
            go_wp2_with fail
            go_ret3
            refine ⟨_, ret_tk HT.out, ?_, HB1.out⟩
            rw [HT.out]
            exact (OwnS.of_own HO1.out HRS.out).clip
          · have hy1b : (y == 1) = false := beq_eq_false_iff_ne.2 y1
            by_cases y2 : y = 255
            · rw [y2] at hT
              have hy2b : (y == 255) = true := by rw [beq_iff_eq]; exact y2
              have hT2 : tkL l = tkOn (o ++ (l.drop k).take m ++ [0]) ((k + m + 2 : Nat) : Int) (tkL (l.drop (k + m + 2))) := by
                rw [hT]
                have e : tkL (0 :: 255 :: l.drop (k + m + 2)) = tkOn [0] 2 (tkL (l.drop (k + m + 2))) := by
                  rw [tkL]; unfold tkOn; simp; split <;> simp <;> omega
                rw [e, tkOn_on]
                congr 1
              have HT := Lib.hid hT2
              clear hT hT2 y1 y2
              go_wp2_with (first | (at_builtin; refine wpList_append_bytes (base := w.heap.size) (.tmp 23) (.tmp 29) _ rfl rfl i0 _ Tryd.underlying29 HI.out HZ0.out HZ1.out HZ2.out rfl (.slice (some ⟨b, off + k, none⟩) (k + m - k) (cap - k)) o ((l.drop k).take m) rfl rfl hown.out.2 HSB2.out (by have := HSL.out; omega) zr ?_; intro v1 w1 hown1 hb1; rw [HSL.out] at hown1; have HO1 := Lib.hid hown1; have HB1 := Lib.hid (hbel.out.trans hb1); clear hown1 hb1; have hyc1 : w1.cell? ⟨b, off + (k + (m + 1)), none⟩ = some (.int .u8 y) := (HB1.out.cell (p := ⟨b, off + (k + (m + 1)), none⟩) hb).trans HY0.out; have hyc2 : w1.cell? ⟨b, off + (k + (m + 2) - 1), none⟩ = some (.int .u8 y) := hyc1; obtain ⟨vo, vcap, rfl, hvn, hvc, _, _⟩ := own_form HO1.out) | (at_builtin; refine wpList_append_one (w := w1) (base := w.heap.size) (.tmp 47) (.tmp 48) _ rfl rfl i0 _ 1 Tryd.underlying29 HI.out HZ0.out HZ1.out HZ2.out rfl (.int .u8 0) rfl rfl HO1.out rfl (by omega) (by omega) HB1.out.size ?_; intro v2 w2 hown2 hb2; have HO2 := Lib.hid hown2; have HB2 := Lib.hid (HB1.out.trans hb2); clear hown2 hb2))
              go_roundw
              case rel => exact ⟨k + m + 2, n + m + 1, o ++ (l.drop k).take m ++ [0], by omega, by omega, by congr 1, by rw [List.length_append, List.length_append, HSL.out, HOL.out]; rfl, HT.out, Lib.hid ⟨HRS.out.append (Rng.cons (by decide) Rng.nil), by rw [List.map_append]; exact HO2.out⟩, HB2.out⟩
              case measure => simp [intOf]; omega
            · have hy2b : (y == 255) = false := beq_eq_false_iff_ne.2 y2
              have HT : tkL l = ([], 0, 11) := by
                rw [hT, tkL, if_pos rfl, if_neg y1, if_neg y2]; rfl
              have HT := Lib.hid HT
              clear hT y1 y2
              go_wp2_with (at_builtin; refine wpList_append_bytes (base := w.heap.size) (.tmp 23) (.tmp 29) _ rfl rfl i0 _ Tryd.underlying29 HI.out HZ0.out HZ1.out HZ2.out rfl (.slice (some ⟨b, off + k, none⟩) (k + m - k) (cap - k)) o ((l.drop k).take m) rfl rfl hown.out.2 HSB2.out (by have := HSL.out; omega) zr ?_; intro v1 w1 hown1 hb1; rw [HSL.out] at hown1; have HO1 := Lib.hid hown1; have HB1 := Lib.hid (hbel.out.trans hb1); clear hown1 hb1; have hyc1 : w1.cell? ⟨b, off + (k + (m + 1)), none⟩ = some (.int .u8 y) := (HB1.out.cell (p := ⟨b, off + (k + (m + 1)), none⟩) hb).trans HY0.out; have hyc2 : w1.cell? ⟨b, off + (k + (m + 2) - 1), none⟩ = some (.int .u8 y) := hyc1; obtain ⟨vo, vcap, rfl, hvn, hvc, _, _⟩ := own_form HO1.out)
              go_ret3
              exact ⟨_, ret_tk HT.out, by rw [HT.out]; exact ⟨Rng.nil, .inl ⟨rfl, rfl⟩⟩, HB1.out⟩
end Codec
end Go.Proofs.YtfkemeamimcnjaaDoor
namespace Go.Proofs.YtfkemeamimcnjaaDoor
open Go.RowKit
namespace Codec
theorem tk_zero (l : List Int) (h : (tkL l).2.2 ≠ 0) : tkOn [] 0 (tkL l) = tkL l := tkOn_nil (tkL_err l)
theorem tk_nil : tkL [] = ([], 0, 10) := by rw [tkL]
theorem tk_one (x : Int) : tkL [x] = ([], 0, 10) := by rw [tkL]
theorem tk_cons {x : Int} (hx : x ≠ 0) (r : List Int) : tkL (x :: r) = tkOn [x] 1 (tkL r) := by
  cases r with
  | nil => rw [tk_nil, tk_one]; rfl
  | cons y r =>
    rw [tkL, if_neg hx]
    unfold tkOn
    by_cases h : (tkL (y :: r)).2.2 = 0
    · rw [if_pos h, if_pos h, Int.add_comm]; rfl
    · rw [if_neg h, if_neg h]
theorem tk_end (r : List Int) : tkL (0 :: 1 :: r) = ([], 2, 0) := by rw [tkL, if_pos rfl, if_pos rfl]
theorem tk_ff (r : List Int) : tkL (0 :: 255 :: r) = tkOn [0] 2 (tkL r) := by
  rw [tkL, if_pos rfl, if_neg (by decide), if_pos rfl]
  unfold tkOn
  by_cases h : (tkL r).2.2 = 0
  · rw [if_pos h, if_pos h, Int.add_comm]; rfl
  · rw [if_neg h, if_neg h]
theorem tk_bad {y : Int} (h1 : y ≠ 1) (h2 : y ≠ 255) (r : List Int) : tkL (0 :: y :: r) = ([], 0, 11) := by
  rw [tkL, if_pos rfl, if_neg h1, if_neg h2]
theorem drop_cons {l : List Int} {k : Nat} {x : Int} (h : l[k]? = some x) : l.drop k = x :: l.drop (k + 1) := by
  obtain ⟨hk, rfl⟩ := List.getElem?_eq_some_iff.1 h
  exact List.drop_eq_getElem_cons hk
theorem tk_none {l : List Int} {w w' : World} {t : List Int × Int × Int} {e : Int} (h : tkL l = ([], 0, e)) (hb : Below w.heap.size w w') : TkPost l w (.returned (.tuple #[.slice none 0 0, .int .i64 0, .int .i64 e])) w' :=
  ⟨_, ret_tk h, by rw [h]; exact ⟨Rng.nil, .inl ⟨rfl, rfl⟩⟩, hb⟩
set_option maxRecDepth 100000 in
set_option maxHeartbeats 4000000 in
theorem rTakeKeyText_any (v : Value) (l : List Int) (w : World) (h : IsB w v l) (hl : l.length ≤ 140737488355327) :
    Calls Tryd.prog 92 #[v] w (TkPost l w) := by
  obtain ⟨ao, cap, rfl, hnc, hcap, -⟩ := h.form
  have HB := Lib.hid h
  obtain ⟨i0, hi0, hz0, hz1, hz2⟩ := info_parts infoU8
  have HI := Lib.hid hi0; have HZ0 := Lib.hid hz0; have HZ1 := Lib.hid hz1; have HZ2 := Lib.hid hz2
  clear hi0 hz0 hz1 hz2 h
  go_enter Tryd.func92, Tryd.ntmps92
  go_wp2_with fail
  go_loopw [5, 6] (fun ov i wr => ∃ (k : Nat) (out : List Int), k ≤ l.length ∧ out.length ≤ k ∧ i = .int .i64 k ∧ Hid (Rng out) ∧ Hid (tkL l = tkOn out k (tkL (l.drop k))) ∧ Hid (wr.ownsRow w.heap.size 5 1 ov out.length (out.map (Value.int .u8))) ∧ Hid (Below w.heap.size w wr)) (fun _ i _ => l.length - (intOf i).toNat)
  case atStart => exact ⟨0, [], by omega, by simp, rfl, Rng.nil, (tkOn_nil (tkL_err l)).symm, World.ownsRow_nil _ _ _ _, Below.refl _ _⟩
  case round =>
    obtain ⟨k, out, hk, hp, rfl, hrng, htk, hown, hbel⟩ := hrel
    by_cases hlt : k < l.length
    · obtain ⟨b, o, x, rfl, hbb, hx, hc, hx1, hx2⟩ := (HB.out.below hbel.out).at_ (k := k) hlt
      have hdr := drop_cons hx.out
      by_cases hx0 : x = 0
      · subst hx0
        by_cases hk1 : k + 1 = l.length
        · have e : l.drop (k + 1) = [] := List.drop_eq_nil_of_le (by omega)
          have ht : tkL l = ([], 0, 10) := by rw [htk.out, hdr, e, tk_one]; rfl
          have HT := Lib.hid ht
          have q : ((k : Int) + 1 == (l.length : Int)) = true := by rw [beq_iff_eq]; omega
          clear ht hdr e
          go_wp2_with fail
          go_ret3
          exact tk_none (t := tkL l) HT.out hbel.out
        · obtain ⟨b2, o2, y, hbe, hbb2, hy, hc2, hy1, hy2⟩ := (HB.out.below hbel.out).at_ (k := k + 1) (by omega)
          cases hbe
          have q : ((k : Int) + 1 == (l.length : Int)) = false := beq_eq_false_iff_ne.2 (by omega)
          rw [drop_cons hy.out] at hdr
          by_cases hy10 : y = 1
          · subst hy10
            have ht : tkL l = (out, (k : Int) + 2, 0) := by rw [htk.out, hdr, tk_end]; unfold tkOn; simp
            have HT := Lib.hid ht
            clear ht hdr
            go_wp2_with fail
            go_ret3
            exact ⟨_, (congrArg (fun z => Ending.returned (.tuple #[_, .int .i64 z, .int .i64 0])) (by omega)).trans (ret_tk HT.out), by rw [HT.out]; exact OwnS.of_own hown.out hrng.out, hbel.out⟩
          · by_cases hy255 : y = 255
            · subst hy255
              have ht : tkL l = tkOn (out ++ [0]) (k + 2 : Nat) (tkL (l.drop (k + 1 + 1))) := by rw [htk.out, hdr, tk_ff, tkOn_on]; rfl
              have HT := Lib.hid ht
              clear ht hdr
              go_wp2_with (at_builtin; refine wpList_append_one (w := wr) (base := w.heap.size) (.tmp 43) (.tmp 44) _ rfl rfl i0 _ 1 Tryd.underlying29 HI.out HZ0.out HZ1.out HZ2.out rfl (.int .u8 0) rfl rfl hown.out rfl (by omega) (by omega) hbel.out.size ?_; intro v' w1 hown' hb'; have HO := Lib.hid hown'; have HB := Lib.hid hb'; clear hown' hb')
              go_roundw
              case rel => exact ⟨k + 2, out ++ [0], by omega, by simp; omega, by go_num, hrng.out.append (Rng.cons (by decide) Rng.nil), HT.out, by rw [List.map_append, List.length_append]; exact HO.out, hbel.out.trans HB.out⟩
              case measure => simp [intOf]; omega
            · have ht : tkL l = ([], 0, 11) := by rw [htk.out, hdr, tk_bad hy10 hy255]; rfl
              have HT := Lib.hid ht
              have q1 : (y == 1) = false := beq_eq_false_iff_ne.2 hy10
              have q2 : (y == 255) = false := beq_eq_false_iff_ne.2 hy255
              clear ht hdr
              go_wp2_with fail
              go_ret3
              exact tk_none (t := tkL l) HT.out hbel.out
      · have ht : tkL l = tkOn (out ++ [x]) (k + 1 : Nat) (tkL (l.drop (k + 1))) := by rw [htk.out, hdr, tk_cons hx0, tkOn_on]; rfl
        have HT := Lib.hid ht
        have q1 : (x != 0) = true := by simp [hx0]
        clear ht hdr
        go_wp2_with (at_builtin; refine wpList_append_one (w := wr) (base := w.heap.size) (.tmp 18) (.tmp 23) _ rfl rfl i0 _ 1 Tryd.underlying29 HI.out HZ0.out HZ1.out HZ2.out rfl (.int .u8 x) rfl rfl hown.out rfl (by omega) (by omega) hbel.out.size ?_; intro v' w1 hown' hb'; have HO := Lib.hid hown'; have HB := Lib.hid hb'; clear hown' hb')
        go_roundw
        case rel => exact ⟨k + 1, out ++ [x], by omega, by simp; omega, by go_num, hrng.out.append (Rng.cons ⟨hx1, hx2⟩ Rng.nil), HT.out, by rw [List.map_append, List.length_append]; exact HO.out, hbel.out.trans HB.out⟩
        case measure => simp [intOf]; omega
    · have hkp : k = l.length := by omega
      subst hkp
      have e : l.drop l.length = [] := List.drop_eq_nil_of_le (by omega)
      have ht : tkL l = ([], 0, 10) := by rw [htk.out, e, tk_nil]; rfl
      have HT := Lib.hid ht
      clear ht e
      go_wp2_with fail
      go_ret3
      exact tk_none (t := tkL l) HT.out hbel.out
end Codec
end Go.Proofs.YtfkemeamimcnjaaDoor
