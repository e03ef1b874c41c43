/- Number's bytes are clipped: an append to them lays a new row. -/
import Derived.Test.YtmojbamloanleaaCodecRT
set_option linter.unusedVariables false
set_option linter.unusedSimpArgs false
namespace Go.Proofs.Ytmojbamloanleaa
open Go.RowKit
theorem wpList_append_clip {P : Program} {w : World} {base : Nat} {e : TypeId} {ao : Option Addr} {l m : List Int} {ops : Array Oper} {rest : List Oper} {o : Oper} {a : Act} {Q : Exit → Act → World → Prop} (s x : Operand) (t : TypeId) (hgd : o.guard = none)
    (ho : o.op = .call { callee := .builtin .append, args := #[s, x], argTypes := #[t, t] })
    (i : TypeInfo) (ht : P.underlying t = some (.slice e)) (hi : P.info? e = some i) (hz : i.zero = some (.int .u8 0)) (hsize : i.size = 1) (hby : i.bytes = 1)
    (u : Value) (hs : a.eval s = .slice ao l.length l.length) (hx : a.eval x = u)
    (hown : OwnS w base e (.slice ao l.length l.length) l) (hu : IsB w u m) (hm : 0 < m.length) (hn : l.length + m.length ≤ 140737488355328)
    (h : ∀ v' w1, w1.ownsRow w.heap.size e 1 v' (l.length + m.length) ((l ++ m).map (Value.int .u8)) → w.grownBy w1 none → wpList P ops Q rest (a.put o.dst v') w1) :
    wpList P ops Q (o :: rest) a w := by
  obtain ⟨h0, uo, ucap, rfl, h2, h3, h4, h5⟩ := hu
  rcases uo with _ | ad
  · have := (h4 rfl).1
    rw [this] at hm; simp at hm
  · obtain ⟨ao0, cap0, hv, hnc, hcap, hnone, hsome⟩ := hown.form
    simp only [Value.slice.injEq, true_and] at hv
    obtain ⟨rfl, rfl⟩ := hv
    obtain ⟨k1, k2, k3⟩ := h5 ad rfl hm
    refine wpList_append_grows w hgd s x t ho e i (.int .u8 0) 1 1 ht hi hz hsize hby rfl (by decide) ao l.length l.length (l.map (Value.int .u8)) hs hnone (by simp) ?_ ad m.length ucap (m.map (Value.int .u8)) hx (by simp) ?_ (ints_oneCell _ _) (by omega) (by unfold maxLen; omega) (by omega) ?_
    · intro b hb j z hj
      obtain ⟨e1, _, hgl⟩ := hsome b hb
      rw [List.getElem?_map, Option.map_eq_some_iff] at hj
      obtain ⟨y, hy, rfl⟩ := hj
      subst hb
      obtain ⟨g', x', hg', _, _, hx', hc', _⟩ := hown.at_ (List.getElem?_eq_some_iff.1 hy).1
      cases hg'
      rw [hx'.out] at hy
      cases hy
      rw [plain_add', Nat.zero_add]
      exact hc'
    · intro j z hj
      rw [List.getElem?_map, Option.map_eq_some_iff] at hj
      obtain ⟨y, hy, rfl⟩ := hj
      have hjl := (List.getElem?_eq_some_iff.1 hy).1
      obtain ⟨b, off, sp⟩ := ad
      simp only at k1 k2 k3
      subst k1
      rw [plain_add', k3 j hjl]
      simp [List.getD, hy]
    · intro v' w' r1 r2
      exact h v' w' (by rw [List.map_append]; exact r1) r2
namespace Codec
def NumCPost (n : Nat) (w : World) (e : Ending) (w' : World) : Prop := ∃ ao, e = .returned (.slice ao (numN n).length (numN n).length) ∧ OwnS w' w.heap.size 5 (.slice ao (numN n).length (numN n).length) (numN n) ∧ Below w.heap.size w w'
set_option maxRecDepth 100000 in
set_option maxHeartbeats 1000000 in
theorem number_clip (n : Nat) (w : World) (hn : n < 18446744073709551616) :
    Calls Try.prog 65 #[.int .u64 n] w (NumCPost n w) := by
  have h10 := numN_len10 hn
  have H10 := Lib.hid h10
  clear h10
  obtain ⟨i0, hi0, hz0, hz1, hz2⟩ := info_parts infoU8
  have HI := Lib.hid hi0; have HZ0 := Lib.hid hz0; have HZ1 := Lib.hid hz1; have HZ2 := Lib.hid hz2
  clear hi0 hz0 hz1 hz2
  go_enter Try.func65, Try.ntmps65
  go_wp2_with fail
  go_loopw [0, 3] (fun x out wr => ∃ (m : Nat) (pre : List Int), m < 18446744073709551616 ∧ pre.length ≤ 10 ∧ x = .int .u64 m ∧ Hid (pre ++ numN m = numN n) ∧ Hid (wr.ownsRow w.heap.size 5 1 out pre.length (pre.map (Value.int .u8))) ∧ Hid (Below w.heap.size w wr)) (fun x _ _ => (intOf x).toNat)
  case atStart => exact ⟨n, [], hn, by simp, rfl, rfl, World.ownsRow_nil _ _ _ _, Below.refl _ _⟩
  case round =>
    obtain ⟨m, pre, hm, hp, rfl, hpre, hown, hbel⟩ := hrel
    by_cases hlt : 127 < m
    · have e1 := or128 m
      have hpre' : (pre ++ [128 + (m : Int) % 128]) ++ numN (m / 128) = numN n := by
        rw [List.append_assoc, List.singleton_append, ← numN_hi (by omega)]; exact hpre.out
      have HP := Lib.hid hpre'
      have hl9 : pre.length + 1 ≤ 10 := by
        have h1 := congrArg List.length hpre'
        have h2 := numN_pos (m / 128)
        have h3 := H10.out
        simp at h1
        omega
      have E1 := Lib.hid e1
      clear hpre' e1
      go_wp2_with (at_builtin; rw [E1.out]; refine wpList_append_one (w := wr) (base := w.heap.size) (.tmp 8) (.tmp 12) _ rfl rfl i0 _ 1 Try.underlying25 HI.out HZ0.out HZ1.out HZ2.out rfl (.int .u8 (128 + (m : Int) % 128)) rfl rfl hown.out rfl (by omega) (by omega) hbel.out.size ?_; intro v' w1 hown' hb'; have HO := Lib.hid hown'; have HB := Lib.hid hb'; clear hown' hb')
      go_roundw
      case rel => exact ⟨m / 128, pre ++ [128 + (m : Int) % 128], by omega, by simp; omega, by go_num, HP.out, by rw [List.map_append, List.length_append]; exact HO.out, hbel.out.trans HB.out⟩
      case measure => simp [intOf]; omega
    · have hpn : pre ++ [(m : Int)] = numN n := by rw [← numN_lo (by omega)]; exact hpre.out
      have HP := Lib.hid hpn
      clear hpn
      go_wp2_with (at_builtin; refine wpList_append_one (w := wr) (base := w.heap.size) (.tmp 14) (.tmp 17) _ rfl rfl i0 _ 1 Try.underlying25 HI.out HZ0.out HZ1.out HZ2.out rfl (.int .u8 (m : Int)) rfl rfl hown.out rfl (by omega) (by omega) hbel.out.size ?_; intro v' w1 hown' hb'; have HO := Lib.hid hown'; have HB := Lib.hid hb'; obtain ⟨ao, cap, rfl, hnc, hcap, _, _⟩ := own_form hown'; clear hown' hb')
      refine (clip_any ao _ cap _ hnc hcap).mono ?_
      rintro e w2 ⟨rfl, rfl⟩
      go_wp2_with fail
      go_ret
      have ho : w1.ownsRow w.heap.size 5 1 (.slice ao (pre.length + 1) cap) (pre.length + 1) ((numN n).map (Value.int .u8)) := by
        rw [← HP.out, List.map_append]; exact HO.out
      exact ⟨ao, by rw [show (numN n).length = pre.length + 1 from by rw [← HP.out]; simp]; rfl, by rw [show (numN n).length = pre.length + 1 from by rw [← HP.out]; simp]; exact (OwnS.of_own ho (numN_rng n)).clip, hbel.out.trans HB.out⟩
end Codec
end Go.Proofs.Ytmojbamloanleaa
