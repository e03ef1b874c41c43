/- rowkey, plainly: tables, rows, what may be handed in; keys and values as bytes. No program in sight. -/
import Derived.Test.YtfkemeamimcnjaaDoorRkC
import Derived.Test.YtfkemeamimcnjaaDoorExP
set_option linter.unusedVariables false
set_option linter.unusedSimpArgs false
namespace Go.Proofs.YtfkemeamimcnjaaDoor
open Go.RowKit
set_option maxRecDepth 100000
namespace PM
def eI (n : Int) : List DV := [.int .i64 n]
def XV.cd (x : XV) : List DV := [.int .i64 x.ty, .bool x.null, .int .i64 x.n, .str x.s]
/-- a column -/
structure Col where
  nm : List Int
  ty : Int
  nn : Bool
  df : XV
def Col.c (x : Col) : List DV := [.str x.nm, .int .i64 x.ty, .bool x.nn, .int .i64 x.df.ty, .bool x.df.null, .int .i64 x.df.n, .str x.df.s]
/-- an index -/
structure Idx where
  id : Int
  nm : List Int
  cols : List Int
  u : Bool
def Idx.c (x : Idx) : List DV := [.int .i64 x.id, .str x.nm, .sl 1 (encL eI x.cols), .bool x.u]
/-- a table -/
structure Tb where
  id : Int
  nm : List Int
  cols : List Col
  key : List Int
  ix : List Idx
def Tb.c (x : Tb) : List AV := [.d (.int .i64 x.id), .d (.str x.nm), .d (.sl 7 (encL Col.c x.cols)), .d (.sl 1 (encL eI x.key)), .d (.sl 4 (encL Idx.c x.ix))]
def Tb.v (x : Tb) : AV := .agg x.c
abbrev il (l : List Int) : AV := .d (.sl 1 (encL eI l))
abbrev vl (l : List XV) : AV := .d (.sl 4 (encL XV.cd l))
/-- numbers of columns, none twice -/
def apart : List Int → Bool
  | [] => true
  | x :: l => !l.contains x && apart l
def unlike (l : List Int) (n : Nat) : Bool := decide (0 < l.length) && (l.all (fun x => decide (0 ≤ x) && decide (x < n)) && apart l)
def colsOk (l : List Col) : Bool := l.all fun c => decide (1 ≤ c.ty) && decide (c.ty ≤ 3)
def tabled (t : Tb) (l : List Int) : Bool := colsOk t.cols && (unlike t.key t.cols.length && unlike l t.cols.length)
/-- a value of a type -/
def fitsV (v : XV) (k : Int) : Bool := decide (v.ty = k) && (!(v.null && (!decide (v.n = 0) || !decide (v.s = []))) &&
  (if k = 3 then decide (v.n = 0) && (decide (v.s.length ≤ 65536) && decide (idxI v.s 0 < 0)) else if k = 2 then decide (v.s = []) && (decide (v.n = 0) || decide (v.n = 1)) else decide (v.s = [])))
def rowFits : List XV → List Col → Bool
  | [], [] => true
  | v :: r, c :: l => fitsV v c.ty && (!(v.null && c.nn) && rowFits r l)
  | _, _ => false
/-- a column's key -/
def colKey (v : XV) : List Int := if v.null = true then [2] else if v.ty = 1 then 1 :: Codec.keyL v.n else if v.ty = 2 then [1, v.n % 256] else 1 :: Codec.keyT v.s
/-- a column's bytes -/
def plainB (v : XV) : List Int := if v.null = true then [0] else if v.ty = 3 then 1 :: textB v.s else colKey v
theorem apart_snoc : ∀ (l : List Int) (x : Int), apart (l ++ [x]) = (apart l && !l.contains x)
  | [], x => by simp [apart]
  | y :: l, x => by
    rw [List.cons_append]
    unfold apart
    rw [apart_snoc l x]
    by_cases h : y = x
    · subst h; simp
    · have h' : ¬ x = y := fun e => h e.symm
      cases h1 : l.contains y <;> cases h2 : apart l <;> cases h3 : l.contains x <;> simp_all
end PM
end Go.Proofs.YtfkemeamimcnjaaDoor
