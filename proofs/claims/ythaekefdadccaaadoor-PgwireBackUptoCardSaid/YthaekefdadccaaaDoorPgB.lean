/- pgwire, plainly: messages of the server's. No program in sight. pgwire, plainly: a client's message as bytes. No program in sight. -/
import Derived.Test.YthaekefdadccaaaDoorPgP
import Derived.Test.YthaekefdadccaaaDoorPgLib
namespace Go.Proofs.YthaekefdadccaaaDoor
open Go.RowKit
namespace PM
structure Back where
  kind : Int
  name : List Int
  text : List Int
  pid : Int
  secret : Int
  status : Int
  fields : List (List Int × Int)
  cells : List (Bool × List Int)
  state : List Int
  fatal : Bool
def fldC (p : List Int × Int) : List DV := [.str p.1, .int .i64 p.2]
def celC (p : Bool × List Int) : List DV := [.bool p.1, .str p.2]
def Back.c (m : Back) : List DV := [.int .i64 m.kind, .str m.name, .str m.text, .int .i64 m.pid, .int .i64 m.secret, .int .u8 m.status, .sl 2 (encL fldC m.fields), .sl 2 (encL celC m.cells), .str m.state, .bool m.fatal]
def Back.v (m : Back) : AV := .agg (m.c.map AV.d)
def zB : Back := ⟨0, [], [], 0, 0, 0, [], [], [], false⟩
/-- as pgwire holds two of them side by side: of the lists the lengths alone -/
def Back.like (a b : Back) : Bool := decide (a.kind = b.kind) && (decide (a.name = b.name) && (decide (a.text = b.text) && (decide (a.pid = b.pid) && (decide (a.secret = b.secret) && (decide (a.status = b.status) && (decide (a.state = b.state) && (decide (a.fatal = b.fatal) && (decide (a.fields.length = b.fields.length) && decide (a.cells.length = b.cells.length)))))))))
def alnum : List Int := [48, 49, 50, 51, 52, 53, 54, 55, 56, 57, 65, 66, 67, 68, 69, 70, 71, 72, 73, 74, 75, 76, 77, 78, 79, 80, 81, 82, 83, 84, 85, 86, 87, 88, 89, 90]
def isAlnum (c : Int) : Bool := (decide (48 ≤ c) && decide (c ≤ 57)) || (decide (65 ≤ c) && decide (c ≤ 90))
def stated (s : List Int) : Bool := decide (s.length = 5) && s.all isAlnum
theorem alnum_mem {c : Int} : c ∈ alnum ↔ isAlnum c = true := by
  unfold alnum isAlnum
  simp only [List.mem_cons, List.not_mem_nil, or_false, Bool.or_eq_true, Bool.and_eq_true, decide_eq_true_eq]
  omega
theorem trim_stated {s : List Int} (h : Rng s) : (trimN s alnum = []) ↔ s.all isAlnum = true := by
  rw [trimN_nil h (fun x hx => by have := alnum_mem.1 hx; unfold isAlnum at this; simp only [Bool.or_eq_true, Bool.and_eq_true, decide_eq_true_eq] at this; omega), List.all_eq_true]
  exact ⟨fun h x hx => alnum_mem.1 (h x hx), fun h x hx => alnum_mem.2 (h x hx)⟩
def tagOf (k : Int) : Int := [32, 82, 83, 75, 90, 84, 68, 67, 73, 69].getD k.toNat 0
def sevOf (b : Bool) : List Int := if b = true then [70, 65, 84, 65, 76] else [69, 82, 82, 79, 82]
/-- of a message what its kind has -/
def Back.only (m : Back) : Back :=
  if m.kind = 2 then { zB with kind := m.kind, name := m.name, text := m.text } else
  if m.kind = 3 then { zB with kind := m.kind, pid := m.pid, secret := m.secret } else
  if m.kind = 4 then { zB with kind := m.kind, status := m.status } else
  if m.kind = 5 then { zB with kind := m.kind, fields := m.fields } else
  if m.kind = 6 then { zB with kind := m.kind, cells := m.cells } else
  if m.kind = 7 then { zB with kind := m.kind, text := m.text } else
  if m.kind = 9 then { zB with kind := m.kind, state := m.state, text := m.text, fatal := m.fatal } else { zB with kind := m.kind }
/-- the end of Put: whether it may be; how long it is at least; the body -/
def putEnd (m : Back) (may : Bool) (long : Int) (body : List Int) : List Int × Int :=
  if (may && (m.only.like m)) = false then ([], 230) else if 1073741824 < (if long ≤ body.length then (body.length : Int) else long) + 4 then ([], 231) else
  (tagOf m.kind :: (big4 (body.length + 4) ++ body), 0)
def statusOk (s : Int) : Bool := decide (s = 73) || decide (s = 84) || decide (s = 69)
def errBody (m : Back) : List Int := ([83] ++ sevOf m.fatal) ++ [0] ++ ([86] ++ sevOf m.fatal) ++ [0] ++ ([67] ++ m.state) ++ [0] ++ ([77] ++ m.text) ++ [0] ++ [0]
end PM
end Go.Proofs.YthaekefdadccaaaDoor
namespace Go.Proofs.YthaekefdadccaaaDoor
open Go.RowKit
namespace PM
theorem big4_l (n : Int) : (big4 n).length = 4 := rfl
/-- of a message what its kind has -/
def Front.only (f : Front) : Front :=
  if f.kind = 1 then { zF with kind := f.kind, params := f.params } else
  if f.kind = 3 then { zF with kind := f.kind, pid := f.pid, secret := f.secret } else
  if f.kind = 4 then { zF with kind := f.kind, text := f.text } else
  if f.kind = 6 then { zF with kind := f.kind, tag := f.tag } else { zF with kind := f.kind }
def Front.like (a b : Front) : Bool := decide (a.text = b.text) && (decide (a.pid = b.pid) && (decide (a.secret = b.secret) && (decide (a.tag = b.tag) && decide (a.params.length = b.params.length))))
theorem take_snoc' {α : Type} {l : List α} {k : Nat} {x : α} (h : l[k]? = some x) : l.take (k + 1) = l.take k ++ [x] := by
  rw [List.take_add_one, h]; rfl
end PM
end Go.Proofs.YthaekefdadccaaaDoor
