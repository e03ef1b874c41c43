/- The walk of CodecTakes. -/
import Derived.Test.YtlolgiphppbcmaaCodecTextsW
import Derived.Test.YtlolgiphppbcmaaCodecRTF
import Derived.Test.YtlolgiphppbcmaaCodecRX
import Derived.Test.YtlolgiphppbcmaaCodecKT
namespace Go.Proofs.Ytlolgiphppbcmaa
open Go.RowKit
namespace Codec
theorem takeTextF_len (l : List Int) : (takeTextF l).1.length ≤ l.length := by
  unfold takeTextF
  split
  · simp
  · simp only [List.length_take, List.length_drop]; omega
theorem takeFrameF_len (l : List Int) : (takeFrameF l).2.1.length ≤ l.length := by
  unfold takeFrameF
  split
  · simp
  · split
    · simp
    · split
      · simp
      · simp only [List.length_take, List.length_drop]; omega
theorem tkL_len : ∀ l : List Int, (tkL l).1.length ≤ l.length
  | [] => by rw [tk_nil]; simp
  | [x] => by rw [tk_one]; simp
  | x :: y :: r => by
    have h1 := tkL_len r
    have h2 := tkL_len (y :: r)
    rw [tkL]
    split
    · split
      · simp
      · split
        · split
          · simp only [List.length_cons]; omega
          · simp
        · simp
    · split
      · simp only [List.length_cons] at *; omega
      · simp
set_option maxRecDepth 100000 in
set_option maxHeartbeats 4000000 in
theorem takes_walk (v : Value) (l : List Int) (w : World) (h : IsB w v l) (hl : l.length ≤ 140737488351232) : Calls Try.prog 6 #[v] w (Ret (.bool true) w) := by
  obtain ⟨ao, cap, rfl, hnc, hcap, -⟩ := h.form
  have HB := Lib.hid h
  have l1 := takeTextF_len l
  have l2 := takeFrameF_len l
  have l3 := tkL_len l
  obtain ⟨tn, htn⟩ : ∃ t, takeN l = t := ⟨_, rfl⟩
  obtain ⟨tt, htt⟩ : ∃ t, takeTextF l = t := ⟨_, rfl⟩
  obtain ⟨tf, htf⟩ : ∃ t, takeFrameF l = t := ⟨_, rfl⟩
  obtain ⟨ti, hti⟩ : ∃ t, takeKeyIntF l = t := ⟨_, rfl⟩
  obtain ⟨tk, htk⟩ : ∃ t, tkL l = t := ⟨_, rfl⟩
  rw [htt] at l1
  rw [htf] at l2
  rw [htk] at l3
  have TN := Lib.hid htn; have TT := Lib.hid htt; have TF := Lib.hid htf; have TI := Lib.hid hti; have TK := Lib.hid htk
  obtain ⟨n1, n2, n3⟩ := tn
  obtain ⟨t1, t2, t3⟩ := tt
  obtain ⟨f1, f2, f3, f4⟩ := tf
  obtain ⟨i1, i2, i3⟩ := ti
  obtain ⟨s1, s2, s3⟩ := tk
  simp only at l1 l2 l3
  clear h htn htt htf hti htk
  go_enter Try.func6, Try.ntmps6
  go_wp2_with fail
  refine (shown_any _).mono ?_
  rintro e w1 ⟨rfl, g1⟩
  have G1 := Lib.hid g1
  clear g1
  go_wp2_with fail
  refine (lent_any _ l w1 (HB.out.below G1.out) hl).mono ?_
  unfold LentPost
  rintro e w2 ⟨rfl, ho2, g2⟩
  have G2 := Lib.hid (bel_call G1.out g2)
  have HB2 := Lib.hid (HB.out.below G2.out)
  have HK2 := Lib.hid (IsB.of_own ho2 (HB.out.rng.append (Rng.cons (x := 177) (by decide) (Rng.cons (x := 178) (by decide) Rng.nil))))
  generalize w1.heap.size = g at HK2
  have hF2 : IsB w2 (.slice (some ⟨g, 0, none⟩) l.length (l.length + 2)) l := by
    have := IsB.front HK2.out l.length (by simp)
    simpa using this
  have HF2 := Lib.hid hF2
  clear ho2 g2 hF2
  go_wp2_with fail
  refine (takeNumber_any _ l w2 HF2.out).mono ?_
  rw [TN.out]
  rintro e w3 ⟨rfl, rfl⟩
  go_wp2_with fail
  refine (rTakeNumber_any _ l w2 HB2.out).mono ?_
  unfold RTPost
  rw [TN.out]
  rintro e w3 ⟨rfl, rfl⟩
  go_wp2_with fail
  refine (takeText_any _ l w2 HF2.out).mono ?_
  unfold TTPost
  rw [TT.out]
  rintro e w3 ⟨tv, rfl, htv, g3⟩
  have HT := Lib.hid htv
  have G3 := Lib.hid g3
  obtain ⟨to, tcap, rfl, -, -, -, -⟩ := htv.form
  clear htv g3
  go_wp2_with fail
  refine (rTakeText_any _ l w3 (HB2.out.below G3.out) (by omega)).mono ?_
  unfold TTPost
  rw [TT.out]
  rintro e w4 ⟨tv, rfl, htv, g4⟩
  have HT' := Lib.hid htv
  have G4 := Lib.hid (bel_call G3.out g4)
  have Q4 := Lib.hid g4
  obtain ⟨to', tcap', rfl, -, -, -, -⟩ := htv.form
  clear htv g4
  go_wp2_with fail
  refine (takeFrame_any _ l w4 (HF2.out.below G4.out) (by omega)).mono ?_
  unfold TFPost
  rw [TF.out]
  rintro e w5 ⟨tv, rfl, htv, g5⟩
  have HR := Lib.hid htv
  have G5 := Lib.hid (bel_call G4.out g5)
  have Q5 := Lib.hid g5
  obtain ⟨ro, rcap, rfl, -, -, -, -⟩ := htv.form
  clear htv g5
  go_wp2_with fail
  refine (rTakeFrame_any _ l w5 (HB2.out.below G5.out) (by omega)).mono ?_
  unfold TFPost
  rw [TF.out]
  rintro e w6 ⟨tv, rfl, htv, g6⟩
  have HR' := Lib.hid htv
  have G6 := Lib.hid (bel_call G5.out g6)
  have Q6 := Lib.hid g6
  obtain ⟨ro', rcap', rfl, -, -, -, -⟩ := htv.form
  clear htv g6
  go_wp2_with fail
  refine (takeKeyInt_any _ l w6 (HF2.out.below G6.out)).mono ?_
  unfold TKPost
  rw [TI.out]
  rintro e w7 ⟨rfl, g7⟩
  have G7 := Lib.hid (bel_call G6.out g7)
  have Q7 := Lib.hid g7
  clear g7
  go_wp2_with fail
  refine (rTakeKeyInt_any _ l w7 (HB2.out.below G7.out)).mono ?_
  unfold TKPost
  rw [TI.out]
  rintro e w8 ⟨rfl, g8⟩
  have G8 := Lib.hid (bel_call G7.out g8)
  have Q8 := Lib.hid g8
  clear g8
  go_wp2_with fail
  refine (takeKeyText_any _ l w8 (HF2.out.below G8.out) (by omega)).mono ?_
  unfold TkPost
  rw [TK.out]
  rintro e w9 ⟨tv, rfl, htv, g9⟩
  have HS := Lib.hid htv
  have G9 := Lib.hid (bel_call G8.out g9)
  have Q9 := Lib.hid g9
  obtain ⟨so, scap, rfl, -, -, -, -⟩ := htv.form
  clear htv g9
  go_wp2_with fail
  refine (rTakeKeyText_any _ l w9 (HB2.out.below G9.out) (by omega)).mono ?_
  unfold TkPost
  rw [TK.out]
  rintro e w10 ⟨tv, rfl, htv, g10⟩
  have HS' := Lib.hid htv
  have G10 := Lib.hid (bel_call G9.out g10)
  have Q10 := Lib.hid g10
  obtain ⟨so', scap', rfl, -, -, -, -⟩ := htv.form
  clear htv g10
  -- what each is in the last world
  have P9 := Lib.hid Q10.out
  have P8 := Lib.hid (bel_call Q9.out P9.out)
  have P7 := Lib.hid (bel_call Q8.out P8.out)
  have P6 := Lib.hid (bel_call Q7.out P7.out)
  have P5 := Lib.hid (bel_call Q6.out P6.out)
  have P4 := Lib.hid (bel_call Q5.out P5.out)
  have P3 := Lib.hid (bel_call Q4.out P4.out)
  have KT := Lib.hid (HT.out.below P3.out)
  have KT' := Lib.hid (HT'.out.below P4.out)
  have KR := Lib.hid (HR.out.below P5.out)
  have KR' := Lib.hid (HR'.out.below P6.out)
  have KS := Lib.hid (HS.out.below P9.out)
  have z4 := P4.out.size
  have z3 := Q4.out.size
  have z2 := G3.out.size
  have z8 := Q9.out.size
  have z5 := Q5.out.size
  have z5' := P5.out.size
  have z58 : w5.heap.size ≤ w8.heap.size := Nat.le_trans Q6.out.size (Nat.le_trans Q7.out.size Q8.out.size)
  have c1 := KT.out.isB.conv Try.underlying23 Try.underlying5 Try.underlying9
  have c2 := KT'.out.isB.conv Try.underlying23 Try.underlying5 Try.underlying9
  have c3 := KR.out.isB.conv Try.underlying23 Try.underlying5 Try.underlying9
  have c4 := KR'.out.isB.conv Try.underlying23 Try.underlying5 Try.underlying9
  have c5 := KS.out.isB.conv Try.underlying23 Try.underlying5 Try.underlying9
  have c6 := HS'.out.isB.conv Try.underlying23 Try.underlying5 Try.underlying9
  go_wp2_with fail
  refine (spoil_any _ _ t1 _ KT.out (by omega)).mono ?_
  unfold SpoilPost
  rintro e w11 ⟨rfl, g11⟩
  have bT : ∀ k, (Value.slice to t1.length tcap).ownBlock = some k → w2.heap.size ≤ k ∧ k < w3.heap.size := fun k hk => HT.out.lt k hk
  have BT := Lib.hid bT
  have KR11 := Lib.hid (KR.out.kept g11 (apart_lt (b2 := w4.heap.size) KR.out (fun k hk => by have := BT.out k hk; omega)))
  have KS11 := Lib.hid (KS.out.kept g11 (apart_lt (b2 := w8.heap.size) KS.out (fun k hk => by have := BT.out k hk; omega)))
  have G11 := Lib.hid (bel_row G10.out g11 (fun k hk => (BT.out k hk).1))
  clear g11 bT c1 c2 c3 c4 c5 c6
  go_wp2_with fail
  refine (spoil_any _ _ f2 _ KR11.out (by omega)).mono ?_
  unfold SpoilPost
  rintro e w12 ⟨rfl, g12⟩
  have bR : ∀ k, (Value.slice ro f2.length rcap).ownBlock = some k → w4.heap.size ≤ k ∧ k < w5.heap.size := fun k hk => HR.out.lt k hk
  have BR := Lib.hid bR
  have KS12 := Lib.hid (KS11.out.kept g12 (apart_lt (b2 := w8.heap.size) KS11.out (fun k hk => by have := BR.out k hk; omega)))
  have G12 := Lib.hid (bel_row G11.out g12 (fun k hk => by have := (BR.out k hk).1; omega))
  clear g12 bR
  go_wp2_with fail
  refine (spoil_any _ _ s1 _ KS12.out (by omega)).mono ?_
  unfold SpoilPost
  rintro e w13 ⟨rfl, g13⟩
  have bS : ∀ k, (Value.slice so s1.length scap).ownBlock = some k → w8.heap.size ≤ k ∧ k < w9.heap.size := fun k hk => HS.out.lt k hk
  have BS := Lib.hid bS
  have G13 := Lib.hid (bel_row G12.out g13 (fun k hk => by have := (BS.out k hk).1; omega))
  clear g13 bS
  go_wp2_with fail
  refine (stays_any _ g _ l w13 (HB2.out.below G13.out) (HK2.out.below G13.out)).mono ?_
  rintro e w14 ⟨rfl, g14⟩
  have G14 := Lib.hid (bel_call G13.out g14)
  clear g14
  go_wp2_with fail
  go_ret
  exact ⟨rfl, bel_call G2.out G14.out⟩
end Codec
end Go.Proofs.Ytlolgiphppbcmaa
