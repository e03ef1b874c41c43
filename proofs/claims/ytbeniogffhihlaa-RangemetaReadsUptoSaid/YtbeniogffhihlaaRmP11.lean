/- rangemeta in the abstract: reading what was laid. -/
import Derived.Test.YtbeniogffhihlaaRmP9
set_option linter.unusedVariables false
set_option linter.unusedSimpArgs false
namespace Go.Proofs.Ytbeniogffhihlaa
open Go.RowKit
namespace PM
theorem numS_ok (n : Nat) (rest : List Int) (bad : Bool) (hn : n ≤ 9007199254740991) : numS (Codec.numN n ++ rest) bad = ((n : Int), rest, bad) := by
  unfold numS
  rw [Codec.takeN_num (by omega)]
  simp only [Int.toNat_natCast, List.drop_left]
  rw [if_neg (by omega)]
theorem textS_ok (f rest : List Int) (bad : Bool) (hf : f.length ≤ 9007199254740991) : textS (txT f ++ rest) bad = (f, rest, bad) := by
  unfold textS txT
  rw [List.append_assoc, numS_ok _ _ _ hf]
  simp only [Int.toNat_natCast, List.take_left, List.drop_left]
  rw [if_neg (by rw [List.length_append]; omega)]
theorem pnumberOk (n : Nat) (rest : List Int) (bad : Bool) (hn : n ≤ 9007199254740991) : PFun Try.prog 67 [.ptr 0 0] (rdM (Codec.numN n ++ rest) bad) (.d (.int .i64 n)) (rdM rest bad) := by
  have h := pnumber (Codec.numN n ++ rest) bad
  rwa [numS_ok n rest bad hn] at h
theorem ptextOk (f rest : List Int) (bad : Bool) (hf : f.length ≤ 1000) (hr : rest.length ≤ 100000000) : PFun Try.prog 68 [.ptr 0 0] (rdM (txT f ++ rest) bad) (bs f) (rdM rest bad) := by
  have h := ptext (txT f ++ rest) bad (by have := Codec.numN_len10 (n := f.length) (by omega); unfold txT; simp only [List.length_append]; omega)
  rwa [textS_ok f rest bad (by omega)] at h
theorem rgsT_drop {l : List Rg} {k : Nat} {x : Rg} (hx : l[k]? = some x) : rgsT (l.drop k) = Codec.numN x.id.toNat ++ (Codec.numN x.gen.toNat ++ (txT x.f ++ (txT x.t ++ rgsT (l.drop (k + 1))))) := by
  rw [drop_cons hx, rgsT, rgT]
  simp only [List.append_assoc]
theorem rgsT_len : ∀ l : List Rg, l.all Rg.right = true → (rgsT l).length ≤ 260 * l.length
  | [], _ => by simp [rgsT]
  | x :: l, h => by
    simp only [List.all_cons, Bool.and_eq_true] at h
    have := rgsT_len l h.2
    have hr := h.1
    unfold Rg.right at hr
    simp only [Bool.and_eq_true, decide_eq_true_eq] at hr
    obtain ⟨⟨⟨⟨⟨⟨r1, r2⟩, r3⟩, r4⟩, r5⟩, r6⟩, -⟩ := hr
    have n1 := Codec.numN_len10 (n := x.id.toNat) (by omega)
    have n2 := Codec.numN_len10 (n := x.gen.toNat) (by omega)
    have n3 := Codec.numN_len10 (n := x.f.length) (by omega)
    have n4 := Codec.numN_len10 (n := x.t.length) (by omega)
    simp only [rgsT, rgT, txT, List.length_append, List.length_cons]
    omega
end PM
end Go.Proofs.Ytbeniogffhihlaa
