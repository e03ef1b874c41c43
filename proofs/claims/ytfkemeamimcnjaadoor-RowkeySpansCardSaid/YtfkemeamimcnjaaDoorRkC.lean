/- rowkey in the abstract: codec's functions of keys and texts (the elder contracts). -/
import Derived.Test.YtfkemeamimcnjaaDoorPmD
import Derived.Test.YtfkemeamimcnjaaDoorCodecKeyT
import Derived.Test.YtfkemeamimcnjaaDoorCodecRTT
import Derived.Test.YtfkemeamimcnjaaDoorCodecRX
import Derived.Test.YtfkemeamimcnjaaDoorCodecKT
set_option linter.unusedVariables false
set_option linter.unusedSimpArgs false
namespace Go.Proofs.YtfkemeamimcnjaaDoor
open Go.RowKit
set_option maxRecDepth 100000
namespace PM
section
variable {G : Gh} {w w' : World}
theorem ownS_new {e : TypeId} {v : Value} {l : List Int} (hm : MemR G nom w) (h : OwnS w' w.heap.size e v l) : RelA G nom w' (bs l) v := relA_d (ownS_relD h fun b hb o _ hn => by
  rw [na_nom] at hn
  have h1 := hm.avlt b o hn
  rcases h.2 with ⟨rfl, -⟩ | ⟨g, cap, cur, rfl, h2, -⟩
  · simp [Value.ownBlock] at hb
  · simp [Value.ownBlock] at hb; omega)
end
theorem pKeyInt (n : Int) : PFun Tryd.prog 71 [.d (.int .i64 n)] nom (.own 0 1 (encB (Codec.keyL n))) ⟨[], [some ⟨5, 1, (Codec.keyL n).length⟩]⟩ :=
  pfun_of_ownS Tryd.func71 rfl rfl fun G w vs hm ha => by
    unfold RelAs at ha
    obtain ⟨v1, vs, rfl, h1, ha⟩ := ha
    unfold RelAs at ha
    subst ha
    obtain ⟨rfl, hw⟩ := h1.int
    rw [wf_i64] at hw
    simp only [Bool.and_eq_true, decide_eq_true_eq] at hw
    exact (Codec.keyInt_any n w hw).mono fun e w' ⟨v, k1, k2, k3⟩ => ⟨v, k1, OwnS.of_own k2 (Codec.keyL_rng hw), k3⟩
theorem pRKeyInt (n : Int) : PFun Tryd.prog 66 [.d (.int .i64 n)] nom (.own 0 1 (encB (Codec.keyL n))) ⟨[], [some ⟨5, 1, (Codec.keyL n).length⟩]⟩ :=
  pfun_of_ownS Tryd.func66 rfl rfl fun G w vs hm ha => by
    unfold RelAs at ha
    obtain ⟨v1, vs, rfl, h1, ha⟩ := ha
    unfold RelAs at ha
    subst ha
    obtain ⟨rfl, hw⟩ := h1.int
    rw [wf_i64] at hw
    simp only [Bool.and_eq_true, decide_eq_true_eq] at hw
    exact (Codec.rKeyInt_any n w hw).mono fun e w' ⟨v, k1, k2, k3⟩ => ⟨v, k1, OwnS.of_own k2 (Codec.keyL_rng hw), k3⟩
theorem pKeyText (l : List Int) (hl : l.length ≤ 1099511627776) : PFun Tryd.prog 83 [bs l] nom (.own 0 1 (encB (Codec.keyT l))) ⟨[], [some ⟨5, 1, (Codec.keyT l).length⟩]⟩ :=
  pfun_of_ownS Tryd.func83 rfl rfl fun G w vs hm ha => by
    unfold RelAs at ha
    obtain ⟨v1, vs, rfl, h1, ha⟩ := ha
    unfold RelAs at ha
    subst ha
    exact (Codec.keyText_any v1 l w h1.dat.isB.1 hl).mono fun e w' ⟨v, k1, k2, k3⟩ => ⟨v, k1, OwnS.of_own k2 (Codec.keyT_rng h1.dat.isB.1.rng), k3⟩
theorem pRKeyText (l : List Int) (hl : l.length ≤ 1099511627776) : PFun Tryd.prog 85 [bs l] nom (.own 0 1 (encB (Codec.keyT l))) ⟨[], [some ⟨5, 1, (Codec.keyT l).length⟩]⟩ :=
  pfun_of_ownS Tryd.func85 rfl rfl fun G w vs hm ha => by
    unfold RelAs at ha
    obtain ⟨v1, vs, rfl, h1, ha⟩ := ha
    unfold RelAs at ha
    subst ha
    exact (Codec.rKeyText_any v1 l w h1.dat.isB.1 hl).mono fun e w' ⟨v, k1, k2, k3⟩ => ⟨v, k1, OwnS.of_own k2 (Codec.keyT_rng h1.dat.isB.1.rng), k3⟩
/-- a text's bytes -/
def textB (l : List Int) : List Int := Codec.numN l.length ++ l
theorem pText (l : List Int) (hl : l.length ≤ 2097152) : Pure Tryd.prog 73 [bs l] (.tup [bs (textB l), .d (.int .i64 0)]) :=
  pure_of_calls Tryd.func73 rfl rfl fun G w vs hm ha => by
    unfold RelAs at ha
    obtain ⟨v1, vs, rfl, h1, ha⟩ := ha
    unfold RelAs at ha
    subst ha
    refine (Codec.text_ok v1 l w h1.dat.isB.1 hl).mono fun e w' ⟨v, k1, k2, k3⟩ => ⟨_, k1, k3, ?_⟩
    unfold RelA
    exact ⟨_, rfl, .cons (ownS_new hm (OwnS.of_own k2 ((Codec.numN_rng _).append h1.dat.isB.1.rng))) (.cons (relA_int (by decide)) .nil)⟩
theorem takeTextF_wf {l : List Int} (h : Rng l) (hm : l.length ≤ maxLen) : (Lit.int .i64 (Codec.takeTextF l).2.1).wf = true ∧ (Lit.int .i64 (Codec.takeTextF l).2.2).wf = true := by
  have hb := Codec.lenF_bd h 0 (by decide)
  have hml : maxLen = 9223372036854775807 := rfl
  rw [wf_i64, wf_i64]
  simp only [Bool.and_eq_true, decide_eq_true_eq]
  unfold Codec.takeTextF
  split
  · simp only; omega
  · rename_i hz
    have := hb.2.2 (by omega)
    simp only
    omega
theorem tkL_bd : ∀ l : List Int, 0 ≤ (Codec.tkL l).2.1 ∧ (Codec.tkL l).2.1 ≤ l.length ∧ 0 ≤ (Codec.tkL l).2.2 ∧ (Codec.tkL l).2.2 ≤ 11
  | [] => by rw [Codec.tkL]; simp
  | [x] => by rw [Codec.tkL]; simp
  | x :: y :: r => by
    have h1 := tkL_bd r
    have h2 := tkL_bd (y :: r)
    rw [Codec.tkL]
    simp only [List.length_cons] at h1 h2 ⊢
    split
    · split
      · simp only; omega
      · split
        · split <;> simp only <;> omega
        · simp only; omega
    · split <;> simp only <;> omega
theorem takeKeyIntF_bd {l : List Int} (h : Rng l) : -9223372036854775808 ≤ (Codec.takeKeyIntF l).1 ∧ (Codec.takeKeyIntF l).1 ≤ 9223372036854775807 ∧ 0 ≤ (Codec.takeKeyIntF l).2.1 ∧ (Codec.takeKeyIntF l).2.1 ≤ 8 ∧ 0 ≤ (Codec.takeKeyIntF l).2.2 ∧ (Codec.takeKeyIntF l).2.2 ≤ 10 := by
  unfold Codec.takeKeyIntF
  split
  · simp
  · have := Codec.v256_max8 h (by omega)
    simp only
    rw [Codec.flip_back this]
    omega
theorem pTakeText (l : List Int) : Pure Tryd.prog 48 [bs l] (.tup [bs (Codec.takeTextF l).1, .d (.int .i64 (Codec.takeTextF l).2.1), .d (.int .i64 (Codec.takeTextF l).2.2)]) :=
  pure_of_calls Tryd.func48 rfl rfl fun G w vs hm ha => by
    unfold RelAs at ha
    obtain ⟨v1, vs, rfl, h1, ha⟩ := ha
    unfold RelAs at ha
    subst ha
    refine (Codec.takeText_any v1 l w h1.dat.isB.1).mono fun e w' ⟨v, k1, k2, k3⟩ => ⟨_, k1, k3, ?_⟩
    unfold RelA
    exact ⟨_, rfl, .cons (ownS_new hm k2) (.cons (relA_int (takeTextF_wf h1.dat.isB.1.rng h1.dat.isB.1.max).1) (.cons (relA_int (takeTextF_wf h1.dat.isB.1.rng h1.dat.isB.1.max).2) .nil))⟩
theorem pRTakeText (l : List Int) (hl : l.length ≤ 140737488355328) : Pure Tryd.prog 100 [bs l] (.tup [bs (Codec.takeTextF l).1, .d (.int .i64 (Codec.takeTextF l).2.1), .d (.int .i64 (Codec.takeTextF l).2.2)]) :=
  pure_of_calls Tryd.func100 rfl rfl fun G w vs hm ha => by
    unfold RelAs at ha
    obtain ⟨v1, vs, rfl, h1, ha⟩ := ha
    unfold RelAs at ha
    subst ha
    refine (Codec.rTakeText_any v1 l w h1.dat.isB.1 hl).mono fun e w' ⟨v, k1, k2, k3⟩ => ⟨_, k1, k3, ?_⟩
    unfold RelA
    exact ⟨_, rfl, .cons (ownS_new hm k2) (.cons (relA_int (takeTextF_wf h1.dat.isB.1.rng h1.dat.isB.1.max).1) (.cons (relA_int (takeTextF_wf h1.dat.isB.1.rng h1.dat.isB.1.max).2) .nil))⟩
theorem pTakeKeyText (l : List Int) (hl : l.length ≤ 140737488355327) : Pure Tryd.prog 74 [bs l] (.tup [bs (Codec.tkL l).1, .d (.int .i64 (Codec.tkL l).2.1), .d (.int .i64 (Codec.tkL l).2.2)]) :=
  pure_of_calls Tryd.func74 rfl rfl fun G w vs hm ha => by
    unfold RelAs at ha
    obtain ⟨v1, vs, rfl, h1, ha⟩ := ha
    unfold RelAs at ha
    subst ha
    refine (Codec.takeKeyText_any v1 l w h1.dat.isB.1 (by omega)).mono fun e w' ⟨v, k1, k2, k3⟩ => ⟨_, k1, k3, ?_⟩
    unfold RelA
    have hb := tkL_bd l
    refine ⟨_, rfl, .cons (ownS_new hm k2) (.cons (relA_int ?_) (.cons (relA_int ?_) .nil))⟩
    · rw [wf_i64]; simp only [Bool.and_eq_true, decide_eq_true_eq]; omega
    · rw [wf_i64]; simp only [Bool.and_eq_true, decide_eq_true_eq]; omega
theorem pRTakeKeyText (l : List Int) (hl : l.length ≤ 140737488355327) : Pure Tryd.prog 92 [bs l] (.tup [bs (Codec.tkL l).1, .d (.int .i64 (Codec.tkL l).2.1), .d (.int .i64 (Codec.tkL l).2.2)]) :=
  pure_of_calls Tryd.func92 rfl rfl fun G w vs hm ha => by
    unfold RelAs at ha
    obtain ⟨v1, vs, rfl, h1, ha⟩ := ha
    unfold RelAs at ha
    subst ha
    refine (Codec.rTakeKeyText_any v1 l w h1.dat.isB.1 (by omega)).mono fun e w' ⟨v, k1, k2, k3⟩ => ⟨_, k1, k3, ?_⟩
    unfold RelA
    have hb := tkL_bd l
    refine ⟨_, rfl, .cons (ownS_new hm k2) (.cons (relA_int ?_) (.cons (relA_int ?_) .nil))⟩
    · rw [wf_i64]; simp only [Bool.and_eq_true, decide_eq_true_eq]; omega
    · rw [wf_i64]; simp only [Bool.and_eq_true, decide_eq_true_eq]; omega
theorem pTakeKeyInt (l : List Int) : Pure Tryd.prog 76 [bs l] (.tup [.d (.int .i64 (Codec.takeKeyIntF l).1), .d (.int .i64 (Codec.takeKeyIntF l).2.1), .d (.int .i64 (Codec.takeKeyIntF l).2.2)]) :=
  pure_of_calls Tryd.func76 rfl rfl fun G w vs hm ha => by
    unfold RelAs at ha
    obtain ⟨v1, vs, rfl, h1, ha⟩ := ha
    unfold RelAs at ha
    subst ha
    refine (Codec.takeKeyInt_any v1 l w h1.dat.isB.1).mono fun e w' ⟨k1, k3⟩ => ⟨_, k1, k3, ?_⟩
    unfold RelA
    have hb := takeKeyIntF_bd h1.dat.isB.1.rng
    refine ⟨_, rfl, .cons (relA_int ?_) (.cons (relA_int ?_) (.cons (relA_int ?_) .nil))⟩
    · rw [wf_i64]; simp only [Bool.and_eq_true, decide_eq_true_eq]; omega
    · rw [wf_i64]; simp only [Bool.and_eq_true, decide_eq_true_eq]; omega
    · rw [wf_i64]; simp only [Bool.and_eq_true, decide_eq_true_eq]; omega
theorem pRTakeKeyInt (l : List Int) : Pure Tryd.prog 91 [bs l] (.tup [.d (.int .i64 (Codec.takeKeyIntF l).1), .d (.int .i64 (Codec.takeKeyIntF l).2.1), .d (.int .i64 (Codec.takeKeyIntF l).2.2)]) :=
  pure_of_calls Tryd.func91 rfl rfl fun G w vs hm ha => by
    unfold RelAs at ha
    obtain ⟨v1, vs, rfl, h1, ha⟩ := ha
    unfold RelAs at ha
    subst ha
    refine (Codec.rTakeKeyInt_any v1 l w h1.dat.isB.1).mono fun e w' ⟨k1, k3⟩ => ⟨_, k1, k3, ?_⟩
    unfold RelA
    have hb := takeKeyIntF_bd h1.dat.isB.1.rng
    refine ⟨_, rfl, .cons (relA_int ?_) (.cons (relA_int ?_) (.cons (relA_int ?_) .nil))⟩
    · rw [wf_i64]; simp only [Bool.and_eq_true, decide_eq_true_eq]; omega
    · rw [wf_i64]; simp only [Bool.and_eq_true, decide_eq_true_eq]; omega
    · rw [wf_i64]; simp only [Bool.and_eq_true, decide_eq_true_eq]; omega
end PM
end Go.Proofs.YtfkemeamimcnjaaDoor
