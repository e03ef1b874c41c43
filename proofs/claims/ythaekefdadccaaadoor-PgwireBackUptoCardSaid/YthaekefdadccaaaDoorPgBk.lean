/- pgwire, plainly: any message of the server's as bytes. No program in sight. -/
import Derived.Test.YthaekefdadccaaaDoorPgB
namespace Go.Proofs.YthaekefdadccaaaDoor
open Go.RowKit
namespace PM
def colOf (t : Int) : Option (Int × Int) := if t = 1 then some (20, 8) else if t = 2 then some (16, 1) else if t = 3 then some (25, -1) else none
def colN (t : Int) : Int := ((colOf t).map Prod.fst).getD 0
def colS (t : Int) : Int := ((colOf t).map Prod.snd).getD 0
def fldOk (p : List Int × Int) : Bool := (colOf p.2).isSome && !has0 p.1
/-- a column, as bytes -/
def fldB (p : List Int × Int) : List Int := p.1 ++ [0] ++ big4 0 ++ big2 0 ++ big4 (colN p.2) ++ big2 (colS p.2) ++ big4 (-1) ++ big2 0
def fldsF (l : List (List Int × Int)) : List Int := (l.map fldB).flatten
def fldsB (l : List (List Int × Int)) : List Int := big2 l.length ++ fldsF l
def fldsBody (l : List (List Int × Int)) : List Int := if l.all fldOk = true then fldsB l else []
def fldsMay (l : List (List Int × Int)) : Bool := l.all fldOk && decide (l.length ≤ 1600)
def celOk (p : Bool × List Int) : Bool := !(p.1 && !decide (p.2 = []))
/-- a cell, as bytes -/
def celB (p : Bool × List Int) : List Int := if p.1 = true then big4 (-1) else big4 p.2.length ++ p.2
def celsF (l : List (Bool × List Int)) : List Int := (l.map celB).flatten
def celsB (l : List (Bool × List Int)) : List Int := big2 l.length ++ celsF l
/-- how many bytes the texts have -/
def celsT (l : List (Bool × List Int)) : Nat := (l.map fun p => p.2.length).sum
def celsN (l : List (Bool × List Int)) : Nat := 2 + (4 * l.length + celsT l)
def celsFew (l : List (Bool × List Int)) : Bool := decide (celsN l + 4 ≤ 1073741824) && decide (l.length ≤ 1600)
def celsBody (l : List (Bool × List Int)) : List Int := if (l.all celOk && celsFew l) = true then celsB l else []
def celsLong (l : List (Bool × List Int)) : Int := if l.all celOk = true then (celsN l : Int) else 0
def celsMay (l : List (Bool × List Int)) : Bool := l.all celOk && decide (l.length ≤ 1600)
def backMay (m : Back) : Bool := if m.kind = 1 then true else if m.kind = 2 then !has0 m.name && !has0 m.text else if m.kind = 3 then i32ok m.pid && i32ok m.secret else
  if m.kind = 4 then statusOk m.status else if m.kind = 5 then fldsMay m.fields else if m.kind = 6 then celsMay m.cells else if m.kind = 7 then !has0 m.text else
  if m.kind = 8 then true else if m.kind = 9 then stated m.state && !has0 m.text else false
def backLong (m : Back) : Int := if m.kind = 6 then celsLong m.cells else 0
def backBody (m : Back) : List Int := if m.kind = 1 then big4 0 else if m.kind = 2 then m.name ++ [0] ++ m.text ++ [0] else if m.kind = 3 then big4 m.pid ++ big4 m.secret else
  if m.kind = 4 then [m.status] else if m.kind = 5 then fldsBody m.fields else if m.kind = 6 then celsBody m.cells else if m.kind = 7 then m.text ++ [0] else
  if m.kind = 9 then errBody m else []
/-- any message of the server's as bytes, or that it may not be written -/
def putBackS (m : Back) : List Int × Int := if m.kind = 10 then (if m.only.like m = true then ([78], 0) else ([], 230)) else putEnd m (backMay m) (backLong m) (backBody m)
/-- short enough for any machine -/
def backSmall (m : Back) : Prop := (fldsF m.fields).length ≤ 100000000000 ∧ celsN m.cells ≤ 100000000000 ∧ m.name.length ≤ 100000000000 ∧ m.text.length ≤ 100000000000 ∧ m.state.length ≤ 100000000000
theorem celsT_snoc {l : List (Bool × List Int)} {k : Nat} {p : Bool × List Int} (h : l[k]? = some p) : celsT (l.take (k + 1)) = celsT (l.take k) + p.2.length := by
  unfold celsT
  rw [take_snoc' h]
  simp
theorem celsT_le (l : List (Bool × List Int)) (k : Nat) : celsT (l.take k) ≤ celsT l := by
  have h := List.take_append_drop k l
  have : celsT l = celsT (l.take k) + celsT (l.drop k) := by
    conv => lhs; rw [← h]
    unfold celsT
    rw [List.map_append, List.sum_append_nat]
  omega
theorem celsF_snoc {l : List (Bool × List Int)} {k : Nat} {p : Bool × List Int} (h : l[k]? = some p) : celsF (l.take (k + 1)) = celsF (l.take k) ++ celB p := by
  unfold celsF
  rw [take_snoc' h]
  simp
theorem fldsF_snoc {l : List (List Int × Int)} {k : Nat} {p : List Int × Int} (h : l[k]? = some p) : fldsF (l.take (k + 1)) = fldsF (l.take k) ++ fldB p := by
  unfold fldsF
  rw [take_snoc' h]
  simp
theorem fldsF_at {l : List (List Int × Int)} {k : Nat} {p : List Int × Int} (h : l[k]? = some p) : (fldsF (l.take k)).length + (fldB p).length ≤ (fldsF l).length := by
  have h2 := congrArg fldsF (List.take_append_drop (k + 1) l)
  have h3 : fldsF (l.take (k + 1) ++ l.drop (k + 1)) = fldsF (l.take (k + 1)) ++ fldsF (l.drop (k + 1)) := by unfold fldsF; rw [List.map_append, List.flatten_append]
  rw [h3, fldsF_snoc h] at h2
  have := congrArg List.length h2
  simp only [List.length_append] at this
  omega
theorem fldB_len (p : List Int × Int) : (fldB p).length = p.1.length + 19 := by
  unfold fldB
  simp [big4, big2]
theorem celB_len (p : Bool × List Int) (h : celOk p = true) : (celB p).length = 4 + p.2.length := by
  obtain ⟨a, b⟩ := p
  unfold celOk at h
  unfold celB
  cases a
  · simp [big4]
    omega
  · simp at h
    subst h
    simp [big4]
theorem all_take {α : Type} {f : α → Bool} {l : List α} (k : Nat) (h : l.all f = true) : (l.take k).all f = true := by
  rw [List.all_eq_true] at h ⊢
  exact fun x hx => h x (List.mem_of_mem_take hx)
theorem all_at {α : Type} {f : α → Bool} {l : List α} {k : Nat} {p : α} (h : l.all f = true) (hx : l[k]? = some p) : f p = true := List.all_eq_true.1 h p (List.mem_of_getElem? hx)
theorem all_not {α : Type} {f : α → Bool} {l : List α} {k : Nat} {p : α} (hx : l[k]? = some p) (hp : f p = false) : l.all f = false := by
  rw [← Bool.not_eq_true]
  intro h
  rw [all_at h hx] at hp
  cases hp
theorem all_more {α : Type} {f : α → Bool} {l : List α} {k : Nat} {p : α} (h : (l.take k).all f = true) (hx : l[k]? = some p) (hp : f p = true) : (l.take (k + 1)).all f = true := by
  rw [take_snoc' hx]
  simp [h, hp]
theorem celsF_len (l : List (Bool × List Int)) (h : l.all celOk = true) : (celsF l).length = 4 * l.length + celsT l := by
  induction l with
  | nil => rfl
  | cons p r ih =>
    simp only [List.all_cons, Bool.and_eq_true] at h
    have := ih h.2
    unfold celsF celsT at *
    simp only [List.map_cons, List.flatten_cons, List.length_append, List.sum_cons, List.length_cons, celB_len p h.1]
    omega
theorem celsB_len (l : List (Bool × List Int)) (h : l.all celOk = true) : (celsB l).length = celsN l := by
  unfold celsB celsN
  rw [List.length_append, celsF_len l h]
  rfl
end PM
end Go.Proofs.YthaekefdadccaaaDoor
