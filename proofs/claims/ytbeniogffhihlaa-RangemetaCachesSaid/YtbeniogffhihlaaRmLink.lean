/- rangemeta: what the elder contracts show, in PM. -/
import Derived.Test.YtbeniogffhihlaaRmP2
import Derived.Test.YtbeniogffhihlaaPmD
import Derived.Test.YtbeniogffhihlaaRm
set_option linter.unusedVariables false
set_option linter.unusedSimpArgs false
namespace Go.Proofs.Ytbeniogffhihlaa
open Go.RowKit
namespace PM
def toRg (x : Rm.RangeD) : Rg := ⟨x.1, x.2.1, x.2.2.1, x.2.2.2⟩
theorem relD_i64 {N : No} {w : World} {n : Int} (h : Rm.I64 n) : RelD N w (.int .i64 n) (.int .i64 n) := by
  unfold RelD
  refine ⟨rfl, ?_⟩
  rw [wf_i64]
  simp only [Bool.and_eq_true, decide_eq_true_eq]
  exact h
theorem relD_B {w : World} {v : Value} {l : List Int} (h : IsB w v l) : RelD (fun _ _ => False) w (.sl 1 (encB l)) v := isB_relD h fun _ _ _ _ h => h
theorem rgs_rel {w : World} {v : Value} {l : List Rm.RangeD} (h : Rm.IsRgs w v l) : RelA G0 nom w (rl (l.map toRg)) v := by
  have h1 := relL (en := fun x => (toRg x).c) h fun cs x hx => by
    obtain ⟨fv, tv, rfl, h1, h2, h3, h4⟩ := hx
    refine ⟨rfl, fun i d hd => ?_⟩
    match i, hd with
    | 0, hd => simp [Rg.c] at hd; subst hd; exact ⟨_, rfl, relD_i64 h3⟩
    | 1, hd => simp [Rg.c] at hd; subst hd; exact ⟨_, rfl, relD_B h1⟩
    | 2, hd => simp [Rg.c] at hd; subst hd; exact ⟨_, rfl, relD_B h2⟩
    | 3, hd => simp [Rg.c] at hd; subst hd; exact ⟨_, rfl, relD_i64 h4⟩
    | i + 4, hd => simp [Rg.c] at hd
  have e : l.map (fun x => (toRg x).c) = encL Rg.c (l.map toRg) := by simp [encL]
  rwa [e] at h1
end PM
end Go.Proofs.Ytbeniogffhihlaa
