/- PM: an evaluator: what concrete code comes to in the abstract is reckoned. No program in sight. -/
import Derived.Test.YthaekefdadccaaaDoorPmD
set_option linter.unusedVariables false
set_option linter.unusedSimpArgs false
namespace Go.Proofs.YthaekefdadccaaaDoor
open Go.RowKit
namespace PM
section
variable {P : Program}
def loadE (P : Program) (t : TypeId) (cs : List AV) : Option AV := match szOf P t with
  | some (true, n) => if n ≤ cs.length then some (.agg (cs.take n)) else none
  | some (false, _) => (match cs with
    | c :: _ => some c
    | [] => none)
  | none => none
theorem loadE_ok {t : TypeId} {cs : List AV} {r : AV} (h : loadE P t cs = some r) {K : AV → Prop} (hK : K r) : loadA P t cs K := by
  unfold loadE at h; unfold loadA
  split at h
  · rename_i h1
    simp only [h1]
    split at h
    · cases h; exact ⟨by assumption, hK⟩
    · cases h
  · rename_i h1
    simp only [h1]
    split at h
    · cases h; exact hK
    · cases h
  · cases h
def intE (op : BinOp) (k : IntKind) (a b : Int) : Option AV := match op with
  | .add => some (.d (.int k (k.wrap (a + b))))
  | .sub => some (.d (.int k (k.wrap (a - b))))
  | .mul => some (.d (.int k (k.wrap (a * b))))
  | .quo => if b = 0 then none else some (.d (.int k (k.wrap (a.tdiv b))))
  | .rem => if b = 0 then none else some (.d (.int k (a.tmod b)))
  | .and => some (.d (.int k (k.wrap ((BitVec.ofInt k.bits a &&& BitVec.ofInt k.bits b).toNat : Int))))
  | .or => some (.d (.int k (k.wrap ((BitVec.ofInt k.bits a ||| BitVec.ofInt k.bits b).toNat : Int))))
  | .xor => some (.d (.int k (k.wrap ((BitVec.ofInt k.bits a ^^^ BitVec.ofInt k.bits b).toNat : Int))))
  | .andNot => some (.d (.int k (k.wrap ((BitVec.ofInt k.bits a &&& ~~~BitVec.ofInt k.bits b).toNat : Int))))
  | .eql => some (.d (.bool (decide (a = b))))
  | .neq => some (.d (.bool (!decide (a = b))))
  | .lss => some (.d (.bool (decide (a < b))))
  | .leq => some (.d (.bool (decide (a ≤ b))))
  | .gtr => some (.d (.bool (decide (b < a))))
  | .geq => some (.d (.bool (decide (b ≤ a))))
  | _ => none
theorem intE_ok {op : BinOp} {k : IntKind} {a b : Int} {r : AV} (h : intE op k a b = some r) {K : AV → Prop} (hK : K r) : intP op k a b K := by
  cases op <;> simp only [intE, intP] at h ⊢
  case quo => split at h; cases h; cases h; exact ⟨by assumption, hK⟩
  case rem => split at h; cases h; cases h; exact ⟨by assumption, hK⟩
  all_goals first
    | (cases h; exact hK)
    | cases h
def intsE (op : BinOp) (k : IntKind) (a : Int) (k' : IntKind) (b : Int) : Option AV := match op with
  | .shl => if 0 ≤ b then some (.d (.int k (k.wrap (a * 2 ^ (min b.toNat k.bits))))) else none
  | .shr => if 0 ≤ b then some (.d (.int k (a.fdiv (2 ^ (min b.toNat k.bits))))) else none
  | op => if k = k' then intE op k a b else none
theorem intsE_ok {op : BinOp} {k k' : IntKind} {a b : Int} {r : AV} (h : intsE op k a k' b = some r) {K : AV → Prop} (hK : K r) : intsP op k a k' b K := by
  cases op <;> simp only [intsE, intsP] at h ⊢
  case shl => split at h; cases h; exact ⟨by assumption, hK⟩; cases h
  case shr => split at h; cases h; exact ⟨by assumption, hK⟩; cases h
  all_goals
    split at h
    · exact ⟨by assumption, intE_ok h hK⟩
    · cases h
def strE (op : BinOp) (a b : List Int) : Option AV := match op with
  | .add => if a.length + b.length ≤ maxLen then some (.d (.str (a ++ b))) else none
  | .eql => some (.d (.bool (decide (a = b))))
  | .neq => some (.d (.bool (!decide (a = b))))
  | .lss => some (.d (.bool (lexLt a b)))
  | .leq => some (.d (.bool (lexLt a b || decide (a = b))))
  | .gtr => some (.d (.bool (!(lexLt a b || decide (a = b)))))
  | .geq => some (.d (.bool (!lexLt a b)))
  | _ => none
theorem strE_ok {op : BinOp} {a b : List Int} {r : AV} (h : strE op a b = some r) {K : AV → Prop} (hK : K r) : strP op a b K := by
  cases op <;> simp only [strE, strP] at h ⊢
  case add => split at h; cases h; exact ⟨by assumption, hK⟩; cases h
  all_goals first
    | (cases h; exact hK)
    | cases h
def isBo (P : Program) (t : TypeId) : Bool := match P.underlying t with
  | some .bool => true
  | _ => false
theorem isBo_spec {t : TypeId} (h : isBo P t = true) : P.underlying t = some .bool := by
  unfold isBo at h; split at h
  · assumption
  · cases h
def isU8 (P : Program) (t : TypeId) : Bool := match P.underlying t with
  | some (.int .u8) => true
  | _ => false
theorem isU8_spec {t : TypeId} (h : isU8 P t = true) : P.underlying t = some (.int .u8) := by
  unfold isU8 at h; split at h
  · assumption
  · cases h
theorem isStr_spec' {t : TypeId} (h : isStr P t = true) : P.underlying t = some .string := by
  unfold isStr at h; split at h
  · assumption
  · cases h
def eqE (P : Program) (t : TypeId) (x y : AV) : Option Bool := match x, y with
  | .d (.bool a), .d (.bool b) => if isBo P t = true then some (a == b) else none
  | .d .nilp, .d .nilp => if isPtr P t = true then some true else none
  | .ptr _ _, .d .nilp => if isPtr P t = true then some false else none
  | .cp _, .d .nilp => if isPtr P t = true then some false else none
  | .nils, .nils => if isSl P t = true then some true else none
  | .bsl _ _ _ _ _, .nils => if isSl P t = true then some false else none
  | .mp _, .d .nilm => if isMp P t = true then some false else none
  | .d .nilm, .d .nilm => if isMp P t = true then some true else none
  | .agg xs, .agg ys => (match plainSt P t with
    | some l => eqAll xs ys l
    | none => none)
  | _, _ => none
theorem eqE_ok {t : TypeId} {x y : AV} {b : Bool} (h : eqE P t x y = some b) {K : Bool → Prop} (hK : K b) : eqP P t x y K := by
  unfold eqE at h
  split at h
  case h_9 => 
    unfold eqP
    split at h
    · rename_i hl; simp only [hl, h]; exact hK
    · cases h
  case h_10 => cases h
  case h_1 => 
    split at h
    · cases h; unfold eqP; exact ⟨isBo_spec (by assumption), hK⟩
    · cases h
  all_goals
    split at h
    · cases h; unfold eqP; exact ⟨by assumption, hK⟩
    · cases h
def nilE (P : Program) (op : BinOp) (t : TypeId) (x y : AV) : Option AV := match slA x, y with
  | some (_, xs), .nils => if isSl P t = true ∧ xs.length ≠ 0 then (match op with
    | .eql => some (.d (.bool false))
    | .neq => some (.d (.bool true))
    | _ => none) else none
  | _, _ => none
theorem nilE_ok {op : BinOp} {t : TypeId} {x y : AV} {r : AV} (h : nilE P op t x y = some r) {K : AV → Prop} (hK : K r) : nilP P op t x y K := by
  unfold nilE at h
  unfold nilP
  split at h
  · rename_i hx
    split at h
    · rename_i hc
      refine ⟨hc.1, ?_⟩
      rw [hx]
      cases op <;> simp only at h ⊢ <;> first
        | cases h
      · exact ⟨fun hz => absurd hz hc.2, hK⟩
      · exact ⟨fun hz => absurd hz hc.2, hK⟩
    · cases h
  · cases h
def binE0 (P : Program) (op : BinOp) (t : TypeId) (x y : AV) : Option AV := match x, y with
  | .d (.int k a), .d (.int k' b) => intsE op k a k' b
  | .d (.str a), .d (.str b) => strE op a b
  | x, y => match op with
    | .eql => (match eqE P t x y with
      | some b => some (.d (.bool b))
      | none => none)
    | .neq => (match eqE P t x y with
      | some b => some (.d (.bool (!b)))
      | none => none)
    | _ => none
theorem binE0_ok {op : BinOp} {t : TypeId} {x y : AV} {r : AV} (h : binE0 P op t x y = some r) {K : AV → Prop} (hK : K r) : binP P op t x y K := by
  unfold binE0 at h
  split at h
  · unfold binP; exact intsE_ok h hK
  · unfold binP; exact strE_ok h hK
  · rename_i n1 n2
    rw [bin_rest n1 n2]
    unfold restP
    split at h
    · split at h
      · rename_i hb
        cases h
        exact eqE_ok (K := fun b => K (.d (.bool b))) hb hK
      · cases h
    · split at h
      · rename_i hb
        cases h
        exact eqE_ok (K := fun b => K (.d (.bool (!b)))) hb hK
      · cases h
    · cases h
def binE (P : Program) (op : BinOp) (t : TypeId) (x y : AV) : Option AV := match binE0 P op t x y with
  | some r => some r
  | none => nilE P op t x y
theorem binE_ok {op : BinOp} {t : TypeId} {x y : AV} {r : AV} (h : binE P op t x y = some r) {K : AV → Prop} (hK : K r) : binP P op t x y K ∨ nilP P op t x y K := by
  unfold binE at h
  split at h
  · rename_i h1; cases h; exact .inl (binE0_ok h1 hK)
  · exact .inr (nilE_ok h hK)
def convE (P : Program) (src dst : TypeId) (x : AV) : Option AV := match P.underlying src, P.underlying dst, x with
  | some (.int _), some (.int k), .d (.int _ n) => some (.d (.int k (k.wrap n)))
  | some .string, some .string, .d (.str l) => some (.d (.str l))
  | some (.slice e), some .string, .nils => if isU8 P e = true then some (.d (.str [])) else none
  | some (.slice e), some .string, .d (.sl _ xs) => if isU8 P e = true then (match bytesD xs with
    | some l => some (.d (.str l))
    | none => none) else none
  | some (.slice e), some .string, .own _ _ xs => if isU8 P e = true then (match bytesD xs with
    | some l => some (.d (.str l))
    | none => none) else none
  | some .string, some (.slice e), .d (.str l) => if isU8 P e = true then some (.d (.sl 1 (encB l))) else none
  | _, _, _ => none
theorem convE_ok {s d : TypeId} {x : AV} {r : AV} (h : convE P s d x = some r) {K : AV → Prop} (hK : K r) : convP P s d x K := by
  unfold convE at h
  unfold convP
  split at h
  · rename_i h1 h2; rw [h1, h2]; cases h; exact hK
  · rename_i h1 h2; rw [h1, h2]; cases h; exact hK
  · rename_i h1 h2; rw [h1, h2]; split at h
    · cases h; exact ⟨isU8_spec (by assumption), hK⟩
    · cases h
  · rename_i h1 h2; rw [h1, h2]; split at h
    · split at h
      · cases h; exact ⟨isU8_spec (by assumption), _, by assumption, hK⟩
      · cases h
    · cases h
  · rename_i h1 h2; rw [h1, h2]; split at h
    · split at h
      · cases h; exact ⟨isU8_spec (by assumption), _, by assumption, hK⟩
      · cases h
    · cases h
  · rename_i h1 h2; rw [h1, h2]; split at h
    · cases h; exact ⟨isU8_spec (by assumption), hK⟩
    · cases h
  · cases h
def mxB (len : Nat) (hi mx : Option AV) : Bool := match mx with
  | none => true
  | some (.d (.int _ n)) => decide (n = len) && hi.isSome
  | _ => false
theorem mxB_spec {len : Nat} {hi mx : Option AV} : mxB len hi mx = true → match mx with | none => True | some (.d (.int _ n)) => n = len ∧ hi ≠ none | _ => False := by
  intro h
  unfold mxB at h
  split at h
  · trivial
  · simp only [Bool.and_eq_true, decide_eq_true_eq] at h
    exact ⟨h.1, fun he => by rw [he] at h; simp at h⟩
  · cases h
def sliceE (P : Program) (t : TypeId) (x : AV) (lo hi mx : Option AV) : Option AV := match P.underlying t, x with
  | some .string, .d (.str l) => (match mx, boundLo lo, boundHi l.length hi with
    | none, some a, some b => if 0 ≤ a ∧ a ≤ b ∧ b ≤ l.length then some (.d (.str ((l.take b.toNat).drop a.toNat))) else none
    | _, _, _ => none)
  | some (.slice e), .d (.sl k xs) => (match boundLo lo, boundHi xs.length hi with
    | some a, some b => if (szOf P e).map (·.2) = some k ∧ mxB xs.length hi mx = true ∧ (0 ≤ a ∧ a ≤ b ∧ b ≤ xs.length) then some (.d (.sl k ((xs.take b.toNat).drop a.toNat))) else none
    | _, _ => none)
  | some (.slice e), .own _ k xs => (match boundLo lo, boundHi xs.length hi with
    | some a, some b => if (szOf P e).map (·.2) = some k ∧ mxB xs.length hi mx = true ∧ (0 ≤ a ∧ a ≤ b ∧ b ≤ xs.length) then some (.d (.sl k ((xs.take b.toNat).drop a.toNat))) else none
    | _, _ => none)
  | some (.slice e), .nils => if (szOf P e).isSome = true ∧ mxB 0 hi mx = true ∧ boundLo lo = some 0 ∧ boundHi 0 hi = some 0 then some .nils else none
  | some (.slice e), .bsl id off n cap k => (match boundLo lo, boundHi n hi, boundMx cap hi.isSome mx with
    | some a, some b, some c => if (szOf P e).map (·.2) = some k ∧ (0 ≤ a ∧ a ≤ b ∧ b ≤ c ∧ c ≤ cap) then some (.bsl id (off + a.toNat * k) (b.toNat - a.toNat) (c.toNat - a.toNat) k) else none
    | _, _, _ => none)
  | some (.array _ _), .ptr id off => (match arOf P t with
    | some (_, n, k) => (match boundLo lo, boundHi n hi, boundMx n hi.isSome mx with
      | some a, some b, some c => if n ≤ 9223372036854775807 ∧ (0 ≤ a ∧ a ≤ b ∧ b ≤ c ∧ c ≤ n) then some (.bsl id (off + a.toNat * k) (b.toNat - a.toNat) (c.toNat - a.toNat) k) else none
      | _, _, _ => none)
    | none => none)
  | _, _ => none
theorem sz_ne {e k : Nat} (h : (szOf P e).map (·.2) = some k) : szOf P e ≠ none := fun he => by rw [he] at h; cases h
theorem mx0 {hi mx : Option AV} : mxB 0 hi mx = true → match mx with | none => True | some (.d (.int _ n)) => n = 0 ∧ hi ≠ none | _ => False := by
  intro h
  have := mxB_spec h
  split at this <;> simp_all
theorem sliceE_ok {t : TypeId} {x : AV} {lo hi mx : Option AV} {r : AV} (h : sliceE P t x lo hi mx = some r) {K : AV → Prop} (hK : K r) : sliceP P t x lo hi mx K := by
  unfold sliceE at h
  unfold sliceP
  split at h
  · rename_i h1; rw [h1]; split at h
    · split at h
      · cases h; exact ⟨rfl, _, _, by assumption, by assumption, by assumption, hK⟩
      · cases h
    · cases h
  · rename_i h1; rw [h1]; split at h
    · split at h
      · rename_i hc; cases h; exact ⟨sz_ne hc.1, hc.1, mxB_spec hc.2.1, _, _, by assumption, by assumption, hc.2.2, hK⟩
      · cases h
    · cases h
  · rename_i h1; rw [h1]; split at h
    · split at h
      · rename_i hc; cases h; exact ⟨sz_ne hc.1, hc.1, mxB_spec hc.2.1, _, _, by assumption, by assumption, hc.2.2, hK⟩
      · cases h
    · cases h
  · rename_i h1; rw [h1]; split at h
    · rename_i hc; cases h
      exact ⟨fun he => by rw [he] at hc; simp at hc, mx0 hc.2.1, hc.2.2.1, hc.2.2.2, hK⟩
    · cases h
  · rename_i h1; rw [h1]; split at h
    · split at h
      · rename_i hc; cases h; exact ⟨hc.1, _, _, _, by assumption, by assumption, by assumption, hc.2, hK⟩
      · cases h
    · cases h
  · rename_i h1; rw [h1]; split at h
    · rename_i h2
      simp only [h2]
      split at h
      · split at h
        · rename_i hc; cases h; exact ⟨hc.1, _, _, _, by assumption, by assumption, by assumption, hc.2, hK⟩
        · cases h
      · cases h
    · cases h
  · cases h
def unE (op : UnOp) (x : AV) : Option AV := match op, x with
  | .not, .d (.bool b) => some (.d (.bool !b))
  | .neg, .d (.int k n) => some (.d (.int k (k.wrap (0 - n))))
  | _, _ => none
theorem unE_ok {op : UnOp} {x : AV} {r : AV} (h : unE op x = some r) {K : AV → Prop} (hK : K r) : unP op x K := by
  unfold unE at h
  split at h
  · cases h; exact hK
  · cases h; exact hK
  · cases h
def lenE (P : Program) (t : TypeId) (x : AV) : Option AV := match P.underlying t, x with
  | some .string, .d (.str l) => some (.d (.int .i64 l.length))
  | some (.slice _), .d (.sl _ xs) => some (.d (.int .i64 xs.length))
  | some (.slice _), .own _ _ xs => some (.d (.int .i64 xs.length))
  | some (.slice _), .nils => some (.d (.int .i64 0))
  | some (.slice _), .bsl _ _ n _ _ => some (.d (.int .i64 n))
  | _, _ => none
theorem lenE_ok {t : TypeId} {x : AV} {r : AV} (h : lenE P t x = some r) {K : AV → Prop} (hK : K r) : lenP P t x K := by
  unfold lenE at h
  unfold lenP
  split at h
  case h_6 => cases h
  all_goals
    rename_i h1
    rw [h1]
    cases h
    exact hK
def valE (P : Program) (ρ : Operand → AV) (m : Mem) (op : Op) : Option AV := match op with
  | .move x => some (ρ x)
  | .assign x => some (ρ x)
  | .pick c a b => (match ρ c with
    | .d (.bool t) => some (if t = true then ρ a else ρ b)
    | _ => none)
  | .load t x => (match ρ x with
    | .ptr id off => (match m.box[id]? with
      | some (some b) => if b.1 < 4294967296 then loadE P t (b.2.drop off) else none
      | _ => none)
    | .cp cs => loadE P t (cs.map AV.d)
    | _ => none)
  | .nilCheck x => (match ρ x with
    | .ptr a b => some (.ptr a b)
    | .cp cs => some (.cp cs)
    | .fn f c => some (.fn f c)
    | _ => none)
  | .binOp op t x y _ => binE0 P op t (ρ x) (ρ y)
  | .unOp op _ x => unE op (ρ x)
  | .convert s d x => (match ρ x with
    | .bsl id off n _ k => if isStr P d = true then convE P s d (viewA m (.bsl id off n 0 k)) else none
    | y => convE P s d y)
  | .fieldAddr s x f => (match fieldOf P s f with
    | some (t, off) => (match szOf P t with
      | some (_, n) => if 0 < n then (match ρ x with
        | .ptr id o => some (.ptr id (o + off))
        | .cp cs => some (.cp (cs.drop off))
        | _ => none) else none
      | none => none)
    | none => none)
  | .field s x f => (match fieldOf P s f with
    | some (t, off) => (match ρ x with
      | .agg cs => loadE P t (cs.drop off)
      | _ => none)
    | none => none)
  | .indexAddr t x i => (match ρ i with
    | .d (.int _ j) => (match elOf P t with
      | some (_, k) => (match slA (ρ x) with
        | some (k', xs) => if k = k' ∧ 0 ≤ j then (match xs[j.toNat]? with
          | some x => some (.cp x)
          | none => none) else none
        | none => (match ρ x with
          | .bsl id off n _ k' => if k = k' ∧ (0 ≤ j ∧ j < n) then some (.ptr id (off + j.toNat * k)) else none
          | _ => none))
      | none => (match arOf P t with
        | some (_, n, k) => if 0 ≤ j ∧ j < n then (match ρ x with
          | .ptr id o => some (.ptr id (o + j.toNat * k))
          | .cp cs => some (.cp (cs.drop (j.toNat * k)))
          | _ => none) else none
        | none => none))
    | _ => none)
  | .index t x i => (match ρ i with
    | .d (.int _ j) => (match P.underlying t, ρ x with
      | some .string, .d (.str l) => if 0 ≤ j then (match l[j.toNat]? with
        | some b => some (.d (.int .u8 b))
        | none => none) else none
      | some (.array n e), .agg cs => if 0 ≤ j ∧ j < n then (match szOf P e with
        | some (_, k) => loadE P e (cs.drop (j.toNat * k))
        | none => none) else none
      | _, _ => none)
    | _ => none)
  | .slice t x lo hi mx => sliceE P t (ρ x) (lo.map ρ) (hi.map ρ) (mx.map ρ)
  | .extract x i => (match ρ x with
    | .tup vs => vs[i]?
    | _ => none)
  | .build t parts => (match buildA P t (parts.toList.map fun p => (p.1, ρ p.2)) with
    | some cs => some (.agg cs)
    | none => none)
  | .makeFunc (.func f) first cap => if first.size = 0 then some (.fn f (cap.toList.map ρ)) else none
  | _ => none
set_option maxHeartbeats 1000000 in
theorem valE_ok {ρ : Operand → AV} {m : Mem} {op : Op} {r : AV} (h : valE P ρ m op = some r) {K : AV → Prop} (hK : K r) : valP P ρ m op K := by
  unfold valE at h
  split at h
  · cases h; exact hK
  · cases h; exact hK
  · split at h
    · rename_i hc; cases h; simp only [valP, hc]; exact hK
    · cases h
  · split at h
    · rename_i hc
      split at h
      · rename_i hb
        split at h
        · rename_i hlt; simp only [valP, hc, hb]; exact ⟨hlt, loadE_ok h hK⟩
        · cases h
      · cases h
    · rename_i hc; simp only [valP, hc]; exact loadE_ok h hK
    · cases h
  · split at h
    · rename_i hc; cases h; simp only [valP, hc]; exact hK
    · rename_i hc; cases h; simp only [valP, hc]; exact hK
    · rename_i hc; cases h; simp only [valP, hc]; exact hK
    · cases h
  · exact binE0_ok h hK
  · exact unE_ok h hK
  · split at h
    · rename_i hc
      split at h
      · rename_i hs; simp only [valP, hc]; exact ⟨hs, convE_ok h hK⟩
      · cases h
    · rename_i hn
      simp only [valP]
      exact convE_ok h hK
  · split at h
    · rename_i h1
      split at h
      · rename_i h2
        split at h
        · rename_i h3
          split at h
          · rename_i h4; cases h; simp only [valP, h1, h2, h4]; exact ⟨h3, hK⟩
          · rename_i h4; cases h; simp only [valP, h1, h2, h4]; exact ⟨h3, hK⟩
          · cases h
        · cases h
      · cases h
    · cases h
  · split at h
    · rename_i h1
      split at h
      · rename_i h2; simp only [valP, h1, h2]; exact loadE_ok h hK
      · cases h
    · cases h
  · split at h
    · rename_i h1
      split at h
      · rename_i h2
        split at h
        · rename_i h3
          split at h
          · rename_i h4
            split at h
            · rename_i h5; cases h; simp only [valP, h1, h2, h3, h5]; exact ⟨h4.1, h4.2, hK⟩
            · cases h
          · cases h
        · rename_i h3
          split at h
          · rename_i h4
            split at h
            · rename_i h5; cases h; simp only [valP, h1, h2, h3, h4]; exact ⟨h5.1, h5.2, hK⟩
            · cases h
          · cases h
      · rename_i h2
        split at h
        · rename_i h3
          split at h
          · rename_i h4
            split at h
            · rename_i h5; cases h; simp only [valP, h1, h2, h3, h5]; exact ⟨h4, hK⟩
            · rename_i h5; cases h; simp only [valP, h1, h2, h3, h5]; exact ⟨h4, hK⟩
            · cases h
          · cases h
        · cases h
    · cases h
  · split at h
    · rename_i h1
      split at h
      · rename_i h2 h3
        split at h
        · rename_i h4
          split at h
          · rename_i h5; cases h; simp only [valP, h1, h2, h3, h5]; exact ⟨h4, hK⟩
          · cases h
        · cases h
      · rename_i h2 h3
        split at h
        · rename_i h4
          split at h
          · rename_i h5; simp only [valP, h1, h2, h3, h5]; exact ⟨h4, loadE_ok h hK⟩
          · cases h
        · cases h
      · cases h
    · cases h
  · exact sliceE_ok h hK
  · split at h
    · rename_i h1; simp only [valP, h1, h]; exact hK
    · cases h
  · split at h
    · rename_i h1; cases h; simp only [valP, h1]; exact hK
    · cases h
  · split at h
    · rename_i h1; cases h; simp only [valP]; exact ⟨h1, hK⟩
    · cases h
  · cases h
def keyOkB (P : Program) (kt : TypeId) (k : AV) : Bool := match clsOf P kt, plainSt P kt with
  | some _, _ => true
  | none, some l => (match k with
    | .agg cs => decide (cs.length = l.length) && decide (l.map (·.1) = List.range l.length)
    | _ => false)
  | none, none => false
theorem keyOkB_ok {kt : TypeId} {k : AV} (h : keyOkB P kt k = true) : keyOk P kt k := by
  unfold keyOkB at h
  unfold keyOk
  split at h
  · rename_i h1; rw [h1]; trivial
  · rename_i h1 h2
    rw [h1, h2]
    split at h
    · simp only [Bool.and_eq_true, decide_eq_true_eq] at h; exact h
    · cases h
  · cases h
def lookE (P : Program) (m : Mem) (t : TypeId) (x k : AV) (ok : Bool) : Option AV := match mapOf P t with
  | some (kt, et) => if keyOkB P kt k = true then (match entriesA m x with
    | some es => (match findK P kt k es with
      | some (some i) => (match es[i]? with
        | some (.tup [_, v]) => some (if ok = true then .tup [v, .d (.bool true)] else v)
        | _ => none)
      | some none => (match zeroV P et with
        | some z => some (if ok = true then .tup [z, .d (.bool false)] else z)
        | none => none)
      | none => none)
    | none => none) else none
  | none => none
theorem lookE_ok {m : Mem} {t : TypeId} {x k : AV} {ok : Bool} {r : AV} (h : lookE P m t x k ok = some r) {K : AV → Prop} (hK : K r) : lookP P m t x k ok K := by
  unfold lookE at h
  unfold lookP
  split at h
  · rename_i h1
    rw [h1]
    split at h
    · rename_i hk
      refine ⟨keyOkB_ok hk, ?_⟩
      split at h
      · rename_i h2
        simp only [h2]
        split at h
        · rename_i h3
          simp only [h3]
          split at h
          · rename_i h4; cases h; simp only [h4]; exact hK
          · cases h
        · rename_i h3
          simp only [h3]
          split at h
          · rename_i h4; cases h; simp only [h4]; exact hK
          · cases h
        · cases h
      · cases h
    · cases h
  · cases h
def mapSetE (P : Program) (m : Mem) (t : TypeId) (x k v : AV) : Option (AV × Mem) := match mapOf P t, x with
  | some (kt, _), .mp id => if keyOkB P kt k = true then (match m.box[id]? with
    | some (some b) => if 4294967296 ≤ b.1 then (match findK P kt k b.2 with
      | some (some i) => some (.tup [], ⟨m.box.set id (some (b.1, b.2.set i (.tup [k, v]))), m.row⟩)
      | some none => some (.tup [], ⟨m.box.set id (some (b.1, b.2 ++ [.tup [k, v]])), m.row⟩)
      | none => none) else none
    | _ => none) else none
  | _, _ => none
theorem mapSetE_ok {m : Mem} {t : TypeId} {x k v : AV} {r : AV} {m' : Mem} (h : mapSetE P m t x k v = some (r, m')) {K : AV → Mem → Prop} (hK : K r m') : mapSetP P m t x k v K := by
  unfold mapSetE at h
  unfold mapSetP
  split at h
  · rename_i h1
    rw [h1]
    split at h
    · rename_i hk
      refine ⟨keyOkB_ok hk, ?_⟩
      split at h
      · rename_i h2
        simp only [h2]
        split at h
        · rename_i h3
          refine ⟨h3, ?_⟩
          split at h
          · rename_i h4; cases h; simp only [h4]; exact hK
          · rename_i h4; cases h; simp only [h4]; exact hK
          · cases h
        · cases h
      · cases h
    · cases h
  · cases h
def srcB (P : Program) (t t' : TypeId) (x : AV) : Bool := match x with
  | .d (.str _) => isStr P t'
  | _ => decide (t' = t)
theorem srcB_ty {t t' : TypeId} {x : AV} (h : srcB P t t' x = true) : srcTy P t t' x := by
  unfold srcB at h
  unfold srcTy
  split at h
  · exact isStr_spec' h
  · rename_i hn; simp only [decide_eq_true_eq] at h; split
    · exact absurd rfl (hn _)
    · exact h
theorem srcB_ok {t t' : TypeId} {x : AV} (h : srcB P t t' x = true) : srcOk P t t' x := by
  unfold srcB at h
  unfold srcOk
  split at h
  · exact isStr_spec' h
  · rename_i hn; simp only [decide_eq_true_eq] at h; split
    · exact absurd rfl (hn _)
    · exact h
def isNil {α : Type} : List α → Bool
  | [] => true
  | _ => false
theorem isNil_spec {α : Type} {l : List α} (h : isNil l = true) : l = [] := by cases l; rfl; cases h
def rowIs (m : Mem) (r : Nat) (e k n : Nat) : Bool := match m.row[r]? with
  | some (some i) => decide (i.e = e) && decide (i.size = k) && decide (i.n = n)
  | _ => false
theorem rowIs_spec {m : Mem} {r e k n : Nat} (h : rowIs m r e k n = true) : m.row[r]? = some (some ⟨e, k, n⟩) := by
  unfold rowIs at h
  split at h
  · rename_i i hi
    simp only [Bool.and_eq_true, decide_eq_true_eq] at h
    obtain ⟨⟨h1, h2⟩, h3⟩ := h
    rw [hi]
    cases i
    simp only at h1 h2 h3
    subst h1 h2 h3
    rfl
  · cases h
def appE (P : Program) (m : Mem) (ts : List TypeId) (s x : AV) : Option (AV × Mem) := match ts with
  | [t, t'] => (match elOf P t with
    | some (e, k) => (match bytesOf P e, srcA x, s with
      | some by_, some (k', ys), .own r k2 xs => if 0 < k ∧ (k' = k ∨ isNil ys = true) ∧ srcB P t t' x = true ∧ (zeroA P e).map List.length = some k ∧ k2 = k ∧ rowIs m r e k xs.length = true ∧ (xs.length + ys.length) * by_ ≤ 140737488355328 ∧ xs.length + ys.length ≤ 140737488355328
        then some (.own r k (xs ++ ys), ⟨m.box, m.row.set r (some ⟨e, k, xs.length + ys.length⟩)⟩) else none
      | some by_, some (k', ys), .nils => if 0 < k ∧ (k' = k ∨ isNil ys = true) ∧ srcB P t t' x = true ∧ (zeroA P e).map List.length = some k ∧ ys.length * by_ ≤ 140737488355328 ∧ ys.length ≤ 140737488355328
        then some (.own m.row.length k ys, ⟨m.box, m.row ++ [some ⟨e, k, ys.length⟩]⟩) else none
      | _, _, _ => none)
    | none => none)
  | _ => none
theorem appE_ok {m : Mem} {ts : List TypeId} {s x : AV} {r : AV} {m' : Mem} (h : appE P m ts s x = some (r, m')) {K : AV → Mem → Prop} (hK : K r m') : appP P m ts s x K := by
  unfold appE at h
  unfold appP
  split at h
  · split at h
    · rename_i h1
      split at h
      · rename_i h2 h3
        split at h
        · rename_i hc
          obtain ⟨c1, c2, c3, c4, c5, c6, c7, c8⟩ := hc
          cases h
          simp only [h1, h2, h3]
          exact ⟨c1, c2.imp_right isNil_spec, srcB_ty c3, c4, c5, rowIs_spec c6, c7, c8, hK⟩
        · cases h
      · rename_i h2 h3
        split at h
        · rename_i hc
          obtain ⟨c1, c2, c3, c4, c5, c6⟩ := hc
          cases h
          simp only [h1, h2, h3]
          exact ⟨c1, c2.imp_right isNil_spec, srcB_ty c3, c4, c5, c6, hK⟩
        · cases h
      · cases h
    · cases h
  · cases h
def appBE (P : Program) (m : Mem) (ts : List TypeId) (s x : AV) : Option (AV × Mem) := match ts, s with
  | [t, t'], .bsl id off n cap k => (match elOf P t, m.box[id]?, srcAll m k x with
    | some (_, k'), some (some b), some (j, cells) => if k' = k ∧ b.1 < 4294967296 ∧ srcB P t t' x = true ∧ n + j ≤ cap ∧ off + (n + j) * k ≤ b.2.length
      then some (.bsl id off (n + j) cap k, ⟨m.box.set id (some (b.1, putCells b.2 (off + n * k) cells)), m.row⟩) else none
    | _, _, _ => none)
  | _, _ => none
theorem appBE_ok {m : Mem} {ts : List TypeId} {s x : AV} {r : AV} {m' : Mem} (h : appBE P m ts s x = some (r, m')) {K : AV → Mem → Prop} (hK : K r m') : appB P m ts s x K := by
  unfold appBE at h
  unfold appB
  split at h
  · split at h
    · rename_i h1 h2 h3
      split at h
      · rename_i hc
        cases h
        simp only [h1, h2, h3]
        exact ⟨hc.1, hc.2.1, srcB_ok hc.2.2.1, hc.2.2.2.1, hc.2.2.2.2, hK⟩
      · cases h
    · cases h
  · cases h
def copyE (P : Program) (m : Mem) (ts : List TypeId) (d x : AV) : Option (AV × Mem) := match ts, d with
  | [t, t'], .bsl id off n _ k => (match elOf P t, m.box[id]?, srcAll m k x with
    | some (_, k'), some (some b), some (j, cells) => if k' = k ∧ b.1 < 4294967296 ∧ srcB P t t' x = true ∧ off + n * k ≤ b.2.length
      then some (.d (.int .i64 ((min j n : Nat) : Int)), ⟨m.box.set id (some (b.1, putCells b.2 off (cells.take (min j n * k)))), m.row⟩) else none
    | _, _, _ => none)
  | _, _ => none
theorem copyE_ok {m : Mem} {ts : List TypeId} {s x : AV} {r : AV} {m' : Mem} (h : copyE P m ts s x = some (r, m')) {K : AV → Mem → Prop} (hK : K r m') : copyP P m ts s x K := by
  unfold copyE at h
  unfold copyP
  split at h
  · split at h
    · rename_i h1 h2 h3
      split at h
      · rename_i hc
        cases h
        simp only [h1, h2, h3]
        exact ⟨hc.1, hc.2.1, srcB_ok hc.2.2.1, hc.2.2.2, hK⟩
      · cases h
    · cases h
  · cases h
def capE (P : Program) (ts : List TypeId) (x : AV) : Option AV := match ts, x with
  | [t], .bsl _ _ _ cap _ => if isSl P t = true then some (.d (.int .i64 cap)) else none
  | [t], .nils => if isSl P t = true then some (.d (.int .i64 0)) else none
  | _, _ => none
theorem capE_ok {ts : List TypeId} {x : AV} {r : AV} (h : capE P ts x = some r) {K : AV → Prop} (hK : K r) : capP P ts x K := by
  unfold capE at h
  unfold capP
  split at h
  · split at h
    · cases h; exact ⟨by assumption, hK⟩
    · cases h
  · split at h
    · cases h; exact ⟨by assumption, hK⟩
    · cases h
  · cases h
def maplenE (P : Program) (m : Mem) (ts : List TypeId) (x : AV) : Option AV := match ts with
  | [t] => (match mapOf P t, entriesA m x with
    | some _, some es => if es.length ≤ 9223372036854775807 then some (.d (.int .i64 es.length)) else none
    | _, _ => none)
  | _ => none
theorem maplenE_ok {m : Mem} {ts : List TypeId} {x : AV} {r : AV} (h : maplenE P m ts x = some r) {K : AV → Prop} (hK : K r) : maplenP P m ts x K := by
  unfold maplenE at h
  unfold maplenP
  split at h
  · split at h
    · rename_i h1 h2
      split at h
      · cases h; simp only [h1, h2]; exact ⟨by assumption, hK⟩
      · cases h
    · cases h
  · cases h
def withM (m : Mem) : Option AV → Option (AV × Mem)
  | some r => some (r, m)
  | none => none
theorem withM_spec {m m' : Mem} {x : Option AV} {r : AV} (h : withM m x = some (r, m')) : x = some r ∧ m' = m := by
  unfold withM at h
  split at h
  · cases h; exact ⟨rfl, rfl⟩
  · cases h
def builtinE (P : Program) (m : Mem) (b : Builtin) (ts : List TypeId) (args : List AV) : Option (AV × Mem) := match b, args with
  | .len, [x] => if isMapA x = true then withM m (maplenE P m ts x) else (match ts with
    | [t] => withM m (lenE P t x)
    | _ => none)
  | .append, [s, x] => if isBsl s = true then appBE P m ts s x else appE P m ts s x
  | .copy, [d, x] => copyE P m ts d x
  | .cap, [x] => withM m (capE P ts x)
  | .min, [x, y] => withM m (min2 x y)
  | .max, [x, y] => withM m (max2 x y)
  | _, _ => none
theorem builtinE_ok {m : Mem} {b : Builtin} {ts : List TypeId} {args : List AV} {r : AV} {m' : Mem} (h : builtinE P m b ts args = some (r, m')) {K : AV → Mem → Prop} (hK : K r m') : builtinP P m b ts args K := by
  unfold builtinE at h
  unfold builtinP
  split at h
  · split at h
    · rename_i hm
      obtain ⟨h1, rfl⟩ := withM_spec h
      simp only [hm, ↓reduceIte]
      exact maplenE_ok (K := fun r => K r m') h1 hK
    · rename_i hm
      split at h
      · obtain ⟨h1, rfl⟩ := withM_spec h
        simp only [hm, ↓reduceIte]
        exact lenE_ok (K := fun r => K r m') h1 hK
      · cases h
  · split at h
    · rename_i hm; simp only [hm, ↓reduceIte]; exact appBE_ok h hK
    · rename_i hm; simp only [hm, ↓reduceIte]; exact appE_ok h hK
  · exact copyE_ok h hK
  · obtain ⟨h1, rfl⟩ := withM_spec h
    exact capE_ok (K := fun r => K r m') h1 hK
  · obtain ⟨h1, rfl⟩ := withM_spec h
    simp only [h1]
    exact hK
  · obtain ⟨h1, rfl⟩ := withM_spec h
    simp only [h1]
    exact hK
  · cases h
/-- calls, reckoned by someone -/
abbrev Cl := Nat → List AV → Mem → Option (AV × Mem)
def ClOk (P : Program) (X : Cl) : Prop := ∀ f args m r m', X f args m = some (r, m') → ∀ K : AV → Mem → Prop, K r m' → callP P m f args K
def litDE (P : Program) (ρ : Operand → AV) (t len : Nat) (parts : Array (Nat × Operand)) : Option (List (List DV) × Nat × Nat) := match elOf P t with
  | some (e, k) => (match parts.toList.mapM (fun p => elA (ρ p.2)) with
    | some xs => if (zeroA P e).isSome = true ∧ parts.toList.map (·.1) = List.range len ∧ 0 < k ∧ len * k ≤ 16777216 ∧ (xs.all fun x => x.length == k) = true then some (xs, e, k) else none
    | none => none)
  | none => none
def litBE (P : Program) (ρ : Operand → AV) (m : Mem) (t len : Nat) (parts : Array (Nat × Operand)) : Option (AV × Mem) := match elOf P t with
  | some (e, k) => if e < 4294967296 ∧ (zeroA P e).isSome = true ∧ parts.toList.map (·.1) = List.range len ∧ 0 < k ∧ len * k ≤ 16777216 ∧ (parts.toList.all fun p => (ρ p.2).okv && ((cellsA (ρ p.2)).length == k)) = true
    then some (.bsl m.box.length 0 len len k, ⟨m.box ++ [some (e, (parts.toList.map fun p => cellsA (ρ p.2)).flatten)], m.row⟩) else none
  | none => none
def buildSliceE (P : Program) (md : Nat) (ρ : Operand → AV) (m : Mem) (t len : Nat) (parts : Array (Nat × Operand)) : Option (AV × Mem) := match md with
  | 2 => litBE P ρ m t len parts
  | 3 => (match litDE P ρ t len parts with
    | some (xs, _, k) => some (.d (.sl k xs), m)
    | none => none)
  | _ => (match litDE P ρ t len parts with
    | some (xs, e, k) => some (.own m.row.length k xs, ⟨m.box, m.row ++ [some ⟨e, k, len⟩]⟩)
    | none => litBE P ρ m t len parts)
def makeSliceE (P : Program) (md : Nat) (m : Mem) (t : TypeId) (l c : AV) : Option (AV × Mem) := match elOf P t, l, c with
  | some (e, k), .d (.int .i64 L), .d (.int .i64 C) => (match md with
    | 1 => (match bytesOf P e, (zeroA P e).bind (fun z => z.mapM dv1) with
      | some by_, some z => if z.length = k ∧ 0 < k ∧ 0 ≤ L ∧ L ≤ C ∧ by_ * C ≤ 140737488355328 ∧ C ≤ 140737488355328 then some (.own m.row.length k (List.replicate L.toNat z), ⟨m.box, m.row ++ [some ⟨e, k, L.toNat⟩]⟩) else none
      | _, _ => none)
    | _ => (match bytesOf P e, zeroA P e with
      | some by_, some z => if e < 4294967296 ∧ z.length = k ∧ 0 < k ∧ 0 ≤ L ∧ L ≤ C ∧ by_ * C ≤ 140737488355328 ∧ C ≤ 140737488355328 then some (.bsl m.box.length 0 L.toNat C.toNat k, ⟨m.box ++ [some (e, (List.replicate C.toNat z).flatten)], m.row⟩) else none
      | _, _ => none))
  | _, _, _ => none
def quietOp : Op → Bool
  | .alloc _ | .box _ _ | .store _ _ _ | .buildSlice _ _ _ | .makeSlice _ _ _ | .makeMap _ _ | .mapUpdate _ _ _ _ | .insert _ _ _ _ | .call _ => false
  | _ => true
def opE (P : Program) (X : Cl) (md : Nat → Nat) (ρ : Operand → AV) (m : Mem) (o : Oper) : Option (AV × Mem) := match o.op with
  | .alloc e => (match zeroA P e with
    | some cs => if e < 4294967296 then some (.ptr m.box.length 0, ⟨m.box ++ [some (e, cs)], m.row⟩) else none
    | none => none)
  | .box e x => if e < 4294967296 ∧ (ρ x).okv = true then some (.ptr m.box.length 0, ⟨m.box ++ [some (e, cellsA (ρ x))], m.row⟩) else none
  | .store t a x => (match ρ a with
    | .ptr id off => (match m.box[id]? with
      | some (some b) => (match szOf P t with
        | some (_, n) => if b.1 < 4294967296 ∧ (ρ x).okv = true ∧ (cellsA (ρ x)).length = n ∧ off + n ≤ b.2.length then some (.tup [], ⟨m.box.set id (some (b.1, putCells b.2 off (cellsA (ρ x)))), m.row⟩) else none
        | none => none)
      | _ => none)
    | _ => none)
  | .buildSlice t len parts => buildSliceE P (o.dst.elim 0 md) ρ m t len parts
  | .makeSlice t l c => makeSliceE P (o.dst.elim 0 md) m t (ρ l) (ρ c)
  | .makeMap t r => if (mapOf P t).isSome = true ∧ r.isNone = true then some (.mp m.box.length, ⟨m.box ++ [some (4294967296, [])], m.row⟩) else none
  | .mapUpdate t x k v => mapSetE P m t (ρ x) (ρ k) (ρ v)
  | .insert t x k v => mapSetE P m t (ρ x) (ρ k) (ρ v)
  | .lookup t x k ok => withM m (lookE P m t (ρ x) (ρ k) ok)
  | .call c => (match c.callee with
    | .builtin b => builtinE P m b c.argTypes.toList (c.args.toList.map ρ)
    | .value x => (match ρ x with
      | .fn f cap => X f (c.args.toList.map ρ ++ cap) m
      | .d (.fnp f) => X f (c.args.toList.map ρ) m
      | _ => none)
    | _ => none)
  | .binOp op t x y _ => withM m (binE P op t (ρ x) (ρ y))
  | op => withM m (valE P ρ m op)
theorem litDE_ok {ρ : Operand → AV} {t len : Nat} {parts : Array (Nat × Operand)} {xs : List (List DV)} {e k : Nat} (h : litDE P ρ t len parts = some (xs, e, k)) : elOf P t = some (e, k) ∧ parts.toList.mapM (fun p => elA (ρ p.2)) = some xs ∧ (zeroA P e).isSome = true ∧ parts.toList.map (·.1) = List.range len ∧ 0 < k ∧ len * k ≤ 16777216 ∧ (xs.all fun x => x.length == k) = true := by
  unfold litDE at h
  split at h
  · rename_i h1
    split at h
    · rename_i h2
      split at h
      · rename_i hc; cases h; exact ⟨h1, h2, hc⟩
      · cases h
    · cases h
  · cases h
set_option maxHeartbeats 1000000 in
theorem opE_ok {X : Cl} (hX : ClOk P X) {md : Nat → Nat} {ρ : Operand → AV} {m : Mem} {o : Oper} {r : AV} {m' : Mem} (h : opE P X md ρ m o = some (r, m')) {K : AV → Mem → Prop} (hK : K r m') : opP P ρ m o K := by
  obtain ⟨dst, op, type, pos, after, guard⟩ := o
  cases op
  case alloc e =>
    simp only [opE] at h
    simp only [opP]
    split at h
    · rename_i h1
      split at h
      · cases h; simp only [h1]; exact ⟨by assumption, hK⟩
      · cases h
    · cases h
  case box e x =>
    simp only [opE] at h
    simp only [opP]
    split at h
    · rename_i hc; cases h; exact ⟨hc.1, hc.2, hK⟩
    · cases h
  case store t a x =>
    simp only [opE] at h
    simp only [opP]
    split at h
    · rename_i h1
      split at h
      · rename_i h2
        split at h
        · rename_i h3
          split at h
          · rename_i hc; cases h; simp only [h1, h2, h3]; exact ⟨hc.1, hc.2.1, hc.2.2.1, hc.2.2.2, hK⟩
          · cases h
        · cases h
      · cases h
    · cases h
  case buildSlice t len parts =>
    simp only [opE] at h
    simp only [opP]
    unfold buildSliceE at h
    have box : litBE P ρ m t len parts = some (r, m') → opP P ρ m ⟨dst, .buildSlice t len parts, type, pos, after, guard⟩ K := fun h => by
      simp only [opP]
      unfold litBE at h
      refine litX_box ?_
      split at h
      · rename_i h1
        split at h
        · rename_i hc; cases h; simp only [h1]; exact ⟨hc.1, hc.2.1, hc.2.2.1, hc.2.2.2.1, hc.2.2.2.2.1, hc.2.2.2.2.2, hK⟩
        · cases h
      · cases h
    simp only [opP] at box
    split at h
    · exact box h
    · refine litX_old ?_
      split at h
      · rename_i h1
        obtain ⟨e1, e2, e3, e4, e5, e6, e7⟩ := litDE_ok h1
        cases h
        simp only [e1, e2]
        exact ⟨e3, e4, e5, e6, e7, litC_data hK⟩
      · cases h
    · split at h
      · refine litX_old ?_
        rename_i h1
        obtain ⟨e1, e2, e3, e4, e5, e6, e7⟩ := litDE_ok h1
        cases h
        simp only [e1, e2]
        exact ⟨e3, e4, e5, e6, e7, litC_own hK⟩
      · exact box h
  case makeSlice t l c =>
    simp only [opE] at h
    simp only [opP]
    unfold makeSliceE at h
    split at h
    · rename_i h1 h2 h3
      split at h
      · refine litX_old ?_
        split at h
        · rename_i h4 h5
          split at h
          · rename_i hc; cases h; simp only [h1, h2, h3, h4, h5]; exact ⟨hc.1, hc.2.1, hc.2.2.1, hc.2.2.2.1, hc.2.2.2.2.1, hc.2.2.2.2.2, hK⟩
          · cases h
        · cases h
      · refine litX_box ?_
        split at h
        · rename_i h4 h5
          split at h
          · rename_i hc; cases h; simp only [h1, h2, h3, h4, h5]; exact ⟨hc.1, hc.2.1, hc.2.2.1, hc.2.2.2.1, hc.2.2.2.2.1, hc.2.2.2.2.2.1, hc.2.2.2.2.2.2, hK⟩
          · cases h
        · cases h
    · cases h
  case makeMap t rv =>
    simp only [opE] at h
    simp only [opP]
    split at h
    · rename_i hc; cases h; exact ⟨hc.1, by cases rv; rfl; simp at hc, hK⟩
    · cases h
  case mapUpdate t x k v =>
    simp only [opE] at h
    simp only [opP]
    exact mapSetE_ok h hK
  case insert t x k v =>
    simp only [opE] at h
    simp only [opP]
    exact mapSetE_ok h hK
  case lookup t x k ok =>
    simp only [opE] at h
    simp only [opP]
    obtain ⟨h1, rfl⟩ := withM_spec h
    exact lookE_ok (K := fun r => K r m') h1 hK
  case call c =>
    simp only [opE] at h
    simp only [opP]
    split at h
    · rename_i h1; simp only [h1]; exact builtinE_ok h hK
    · rename_i h1
      simp only [h1]
      split at h
      · rename_i h2; simp only [h2]; exact hX _ _ _ _ _ h K hK
      · rename_i h2; simp only [h2]; exact hX _ _ _ _ _ h K hK
      · cases h
    · cases h
  case binOp op t x y t' =>
    simp only [opE] at h
    simp only [opP]
    obtain ⟨h1, rfl⟩ := withM_spec h
    simp only [valP]
    exact binE_ok (K := fun r => K r m') h1 hK
  all_goals
    simp only [opE] at h
    simp only [opP]
    obtain ⟨h1, rfl⟩ := withM_spec h
    exact valE_ok (K := fun r => K r m') h1 hK
def wantE (ops : Array Oper) (s : St) (o : Oper) : Option Bool := match o.guard with
  | none => some true
  | some (j, want) => match (ops[j]?).bind (·.dst) with
    | none => some false
    | some d => match s.t d with
      | .d (.bool b) => some (b == want)
      | .tup _ => some false
      | _ => none
theorem wantE_t {ops : Array Oper} {s : St} {o : Oper} (h : wantE ops s o = some true) {A B : Prop} (hA : A) : wantP ops s o A B := by
  unfold wantE at h
  unfold wantP
  split at h
  · rename_i h1; rw [h1]; exact hA
  · rename_i h1
    rw [h1]
    simp only
    split at h
    · cases h
    · rename_i h2
      simp only [h2]
      split at h
      · rename_i h3
        simp only [h3]
        have : _ == _ := Option.some.inj h
        simp only [beq_iff_eq] at this
        exact ⟨fun _ => hA, fun hn => absurd this hn⟩
      · cases h
      · cases h
theorem wantE_f {ops : Array Oper} {s : St} {o : Oper} (h : wantE ops s o = some false) {A B : Prop} (hB : B) : wantP ops s o A B := by
  unfold wantE at h
  unfold wantP
  split at h
  · cases h
  · rename_i h1
    rw [h1]
    simp only
    split at h
    · rename_i h2; simp only [h2]; exact hB
    · rename_i h2
      simp only [h2]
      split at h
      · rename_i h3
        simp only [h3]
        have := Option.some.inj h
        simp only [beq_eq_false_iff_ne] at this
        exact ⟨fun he => absurd he this, fun _ => hB⟩
      · rename_i h3; simp only [h3]; exact hB
      · cases h
/-- a nil slice to which is appended becomes a row -/
def retell (P : Program) (s : St) (o : Oper) : St := match o.op with
  | .call c => (match c.callee, c.args.toList, c.argTypes.toList with
    | .builtin .append, .tmp i :: _, t :: _ => (match s.t i, elOf P t with
      | .nils, some (e, k) => if 0 < k then ⟨upd s.t i (.own s.m.row.length k []), s.n, ⟨s.m.box, s.m.row ++ [some ⟨e, k, 0⟩]⟩⟩ else s
      | _, _ => s)
    | _, _, _ => s)
  | _ => s
end
section
variable {P : Program} {G : Gh} {m : Mem} {w w' : World}
theorem nil_tell {s : St} {a : Act} (hs : StR G s a w) (i : Nat) (e : TypeId) (k : Nat) (hi : s.t i = .nils) (hk : 0 < k) : ∃ G', StR G' ⟨upd s.t i (.own s.m.row.length k []), s.n, ⟨s.m.box, s.m.row ++ [some ⟨e, k, 0⟩]⟩⟩ a w ∧ Ev G s.m w G' ⟨s.m.box, s.m.row ++ [some ⟨e, k, 0⟩]⟩ w := by
  obtain ⟨h1, h2⟩ := mem_rownil hs.mem e k hk
  refine ⟨_, ⟨h2, fun j => ?_, hs.n, hs.df⟩, h1⟩
  show RelA _ _ _ (upd s.t i _ j) _
  by_cases hj : j = i
  · subst hj
    rw [upd_eq]
    have := hs.t j
    rw [hi] at this
    unfold RelA at this
    rw [this]
    unfold RelA
    refine ⟨by simp, ?_, fun x hx => ?_⟩
    · unfold RelD
      exact ⟨none, 0, rfl, by simp, by simp, fun _ => ⟨rfl, rfl⟩, fun a ha => by cases ha⟩
    · simp only [List.getElem?_concat_length, Option.some.injEq] at hx
      subst hx
      refine ⟨by simp, fun _ => ?_⟩
      show _ = Value.slice ((upd G.ri s.m.row.length none s.m.row.length).map _) _ (upd G.rc s.m.row.length 0 s.m.row.length)
      rw [upd_eq, upd_eq]
      rfl
  · rw [upd_ne _ _ hj]
    exact (hs.t j).mono h1
theorem retell_tell {s : St} {a : Act} (hs : StR G s a w) (o : Oper) : ∃ G', StR G' (retell P s o) a w ∧ Ev G s.m w G' (retell P s o).m w := by
  unfold retell
  split
  · split
    · split
      · split
        · exact nil_tell hs _ _ _ (by assumption) (by assumption)
        · exact ⟨G, hs, .refl _ _ _⟩
      · exact ⟨G, hs, .refl _ _ _⟩
    · exact ⟨G, hs, .refl _ _ _⟩
  · exact ⟨G, hs, .refl _ _ _⟩
theorem wanted_of {ops : Array Oper} {s : St} {a : Act} (hs : StR G s a w) {o : Oper} {b : Bool} (h : wantE ops s o = some b) : Region.wanted o (yielded ops a.tmps) = b := by
  cases b with
  | true => 
    rcases want_sound hs (A := True) (B := False) (wantE_t h trivial) with h1 | h1
    · exact h1.1
    · exact h1.2.elim
  | false =>
    rcases want_sound hs (A := False) (B := True) (wantE_f h trivial) with h1 | h1
    · exact h1.2.elim
    · exact h1.1
def opsE (P : Program) (X : Cl) (md : Nat → Nat) (ops : Array Oper) : List Oper → St → Option St
  | [], s => some s
  | o :: rest, s => match wantE ops s o with
    | some true => (match opE P X md (retell P s o).eval (retell P s o).m o with
      | some (r, m') => opsE P X md ops rest (({ retell P s o with m := m' } : St).put o.dst r)
      | none => none)
    | some false => opsE P X md ops rest (s.put o.dst (.tup []))
    | none => none
theorem opsE_sound {X : Cl} (hX : ClOk P X) {md : Nat → Nat} {ops : Array Oper} {Q : Exit → Act → World → Prop} {s0 s1 : St} {G0 : Gh} {w0 : World} (hQ : ∀ G' a' w', StR G' s1 a' w' → Ev G0 s0.m w0 G' s1.m w' → Q .normal a' w') : ∀ (l : List Oper) (s : St) (G : Gh) (a : Act) (w : World), opsE P X md ops l s = some s1 → StR G s a w → Ev G0 s0.m w0 G s.m w → wpList P ops Q l a w
  | [], s, G, a, w, h, hs, hev => by
    unfold opsE at h
    cases h
    exact hQ G a w hs hev
  | o :: rest, s, G, a, w, h, hs, hev => by
    unfold opsE at h
    unfold wpList
    split at h
    · rename_i hw
      rw [if_pos (wanted_of hs hw)]
      split at h
      · rename_i r m' ho
        obtain ⟨G1, hs1, hev1⟩ := retell_tell (P := P) hs o
        refine .inl (op_sound hs1.mem hs1.ev o (opE_ok hX ho (K := fun r' m'' => r' = r ∧ m'' = m') ⟨rfl, rfl⟩) fun v w' r' G' m'' k1 k2 k3 k4 => ?_)
        obtain ⟨rfl, rfl⟩ := k4
        refine opsE_sound hX hQ rest _ G' _ w' h (hs1.put k1 k2 k3 o.dst) ?_
        have : ∀ d x, (({ retell P s o with m := m'' } : St).put d x).m = m'' := fun d x => by unfold St.put; cases d <;> simp only; split <;> rfl
        rw [this]
        exact (hev.trans hev1).trans k2
      · cases h
    · rename_i hw
      rw [if_neg (by rw [wanted_of hs hw]; simp)]
      refine opsE_sound hX hQ rest _ G _ w h (hs.put hs.mem (.refl _ _ _) relA_undef o.dst) ?_
      have : ∀ d x, (s.put d x).m = s.m := fun d x => by unfold St.put; cases d <;> simp only; split <;> rfl
      rw [this]
      exact hev
    · cases h
/-- calls that change nothing -/
abbrev Pu := Nat → List AV → Option AV
mutual
def coA : AV → AV
  | .own _ k xs => .d (.sl k xs)
  | .agg cs => .agg (coAs cs)
  | .fn f cap => .fn f (coAs cap)
  | .tup cs => .tup (coAs cs)
  | .junk => .junk
  | .d x => .d x
  | .nils => .nils
  | .ptr i o => .ptr i o
  | .bsl i o n c k => .bsl i o n c k
  | .mp i => .mp i
  | .cp cs => .cp cs
def coAs : List AV → List AV
  | [] => []
  | x :: xs => coA x :: coAs xs
end
mutual
theorem co_coA : ∀ x : AV, Co x (coA x)
  | .own _ _ _ => co_own _ _ _
  | .agg cs => by unfold coA Co; exact ⟨_, rfl, cos_coAs cs⟩
  | .fn f cap => by unfold coA Co; exact ⟨_, rfl, cos_coAs cap⟩
  | .tup cs => by unfold coA Co; exact ⟨_, rfl, cos_coAs cs⟩
  | .junk => co_refl _
  | .d _ => co_refl _
  | .nils => co_refl _
  | .ptr _ _ => co_refl _
  | .bsl _ _ _ _ _ => co_refl _
  | .mp _ => co_refl _
  | .cp _ => co_refl _
theorem cos_coAs : ∀ xs : List AV, Cos xs (coAs xs)
  | [] => by unfold coAs Cos; rfl
  | x :: xs => by unfold coAs Cos; exact ⟨_, _, rfl, co_coA x, cos_coAs xs⟩
end
def PuOk (P : Program) (Y : Pu) : Prop := ∀ f args r, Y f args = some r → Pure P f (coAs args) r ∧ purAs (coAs args) = true
def firstE (P : Program) (Y : Pu) (L : List Nat) (ρ : Operand → AV) (m : Mem) (o : Oper) : Option AV := match o.op with
  | .call c => (match c.callee with
    | .builtin b => if firstOk (.call c) = true ∧ ((c.args.toList.map ρ).all fun x => !isMapA x) = true then (match builtinE P m b c.argTypes.toList (c.args.toList.map ρ) with
      | some (r, _) => some r
      | none => none) else none
    | .value x => (match ρ x with
      | .fn f cap => Y f (c.args.toList.map ρ ++ cap)
      | .d (.fnp f) => Y f (c.args.toList.map ρ)
      | _ => none)
    | _ => none)
  | .convert s d x => if isBsl (ρ x) = false then valE P ρ m (.convert s d x) else none
  | .load t x => (match ρ x with
    | .ptr id _ => if L.contains id = true then valE P ρ m (.load t x) else none
    | .cp _ => valE P ρ m (.load t x)
    | _ => none)
  | .buildSlice t len parts => (match litDE P ρ t len parts with
    | some (xs, _, k) => some (.d (.sl k xs))
    | none => none)
  | op => if firstOk op = true then valE P ρ m op else none
set_option maxHeartbeats 1000000 in
theorem firstE_ok {Y : Pu} (hY : PuOk P Y) {L : List Nat} {ρ : Operand → AV} {m : Mem} {o : Oper} {r : AV} (h : firstE P Y L ρ m o = some r) {K : AV → Prop} (hK : K r) : firstP P L ρ m o K := by
  obtain ⟨dst, op, type, pos, after, guard⟩ := o
  cases op
  case call c =>
    simp only [firstE] at h
    simp only [firstP]
    split at h
    · rename_i h1
      simp only [h1]
      split at h
      · rename_i hc
        split at h
        · rename_i r' m' hb
          cases h
          exact ⟨by have := hc.1; simpa using this, hc.2, builtinE_ok (K := fun r _ => K r) hb hK⟩
        · cases h
      · cases h
    · rename_i h1
      simp only [h1]
      split at h
      · rename_i h2; simp only [h2]; exact ⟨_, _, (hY _ _ _ h).1, cos_coAs _, (hY _ _ _ h).2, hK⟩
      · rename_i h2; simp only [h2]; exact ⟨_, _, (hY _ _ _ h).1, cos_coAs _, (hY _ _ _ h).2, hK⟩
      · cases h
    · cases h
  case convert s d x =>
    simp only [firstE] at h
    simp only [firstP]
    split at h
    · rename_i h1; exact ⟨h1, valE_ok h hK⟩
    · cases h
  case load t x =>
    simp only [firstE] at h
    simp only [firstP]
    split at h
    · rename_i h1
      simp only [h1]
      split at h
      · rename_i h2; exact ⟨by simpa using h2, valE_ok h hK⟩
      · cases h
    · rename_i h1; simp only [h1]; exact valE_ok h hK
    · cases h
  case buildSlice t len parts =>
    simp only [firstE] at h
    simp only [firstP]
    split at h
    · rename_i h1
      obtain ⟨e1, e2, e3, e4, e5, e6, e7⟩ := litDE_ok h1
      cases h
      simp only [e1, e2]
      exact ⟨e3, e4, e5, e6, e7, hK⟩
    · cases h
  all_goals
    simp only [firstE] at h
    simp only [firstP]
    split at h
    · exact ⟨by assumption, valE_ok h hK⟩
    · cases h
mutual
def beqD : DV → DV → Bool
  | .int k n, .int k' n' => decide (k = k') && decide (n = n')
  | .bool b, .bool b' => b == b'
  | .str l, .str l' => decide (l = l')
  | .sl k xs, .sl k' ys => decide (k = k') && beqDss xs ys
  | .nilp, .nilp => true
  | .nilf, .nilf => true
  | .fnp f, .fnp g => decide (f = g)
  | .nilm, .nilm => true
  | _, _ => false
def beqDs : List DV → List DV → Bool
  | [], [] => true
  | x :: xs, y :: ys => beqD x y && beqDs xs ys
  | _, _ => false
def beqDss : List (List DV) → List (List DV) → Bool
  | [], [] => true
  | x :: xs, y :: ys => beqDs x y && beqDss xs ys
  | _, _ => false
end
mutual
theorem beqD_ok : ∀ x y : DV, beqD x y = true → x = y
  | .int _ _, y, h => by cases y <;> simp_all [beqD]
  | .bool _, y, h => by cases y <;> simp_all [beqD]
  | .str _, y, h => by cases y <;> simp_all [beqD]
  | .sl _ xs, y, h => by
    cases y <;> simp only [beqD, Bool.and_eq_true, decide_eq_true_eq, Bool.false_eq_true] at h
    obtain ⟨rfl, h⟩ := h
    rw [beqDss_ok xs _ h]
  | .nilp, y, h => by cases y <;> simp_all [beqD]
  | .nilf, y, h => by cases y <;> simp_all [beqD]
  | .fnp _, y, h => by cases y <;> simp_all [beqD]
  | .nilm, y, h => by cases y <;> simp_all [beqD]
  | .mpd _ _ _ _, y, h => by cases y <;> simp [beqD] at h
theorem beqDs_ok : ∀ x y : List DV, beqDs x y = true → x = y
  | [], y, h => by cases y; rfl; simp [beqDs] at h
  | x :: xs, y, h => by
    cases y with
    | nil => simp [beqDs] at h
    | cons y ys =>
      simp only [beqDs, Bool.and_eq_true] at h
      rw [beqD_ok x y h.1, beqDs_ok xs ys h.2]
theorem beqDss_ok : ∀ x y : List (List DV), beqDss x y = true → x = y
  | [], y, h => by cases y; rfl; simp [beqDss] at h
  | x :: xs, y, h => by
    cases y with
    | nil => simp [beqDss] at h
    | cons y ys =>
      simp only [beqDss, Bool.and_eq_true] at h
      rw [beqDs_ok x y h.1, beqDss_ok xs ys h.2]
end
mutual
def beqA : AV → AV → Bool
  | .junk, .junk => true
  | .d x, .d y => beqD x y
  | .nils, .nils => true
  | .own r k xs, .own r' k' ys => decide (r = r') && decide (k = k') && beqDss xs ys
  | .ptr a b, .ptr c d => decide (a = c) && decide (b = d)
  | .bsl a b c d e, .bsl a' b' c' d' e' => decide (a = a') && decide (b = b') && decide (c = c') && decide (d = d') && decide (e = e')
  | .mp a, .mp b => decide (a = b)
  | .cp x, .cp y => beqDs x y
  | .fn f x, .fn g y => decide (f = g) && beqAs x y
  | .agg x, .agg y => beqAs x y
  | .tup x, .tup y => beqAs x y
  | _, _ => false
def beqAs : List AV → List AV → Bool
  | [], [] => true
  | x :: xs, y :: ys => beqA x y && beqAs xs ys
  | _, _ => false
end
mutual
theorem beqA_ok : ∀ x y : AV, beqA x y = true → x = y
  | .junk, y, h => by cases y <;> simp_all [beqA]
  | .d x, y, h => by
    cases y <;> simp only [beqA, Bool.false_eq_true] at h
    rw [beqD_ok x _ h]
  | .nils, y, h => by cases y <;> simp_all [beqA]
  | .own _ _ xs, y, h => by
    cases y <;> simp only [beqA, Bool.and_eq_true, decide_eq_true_eq, Bool.false_eq_true] at h
    obtain ⟨⟨rfl, rfl⟩, h⟩ := h
    rw [beqDss_ok xs _ h]
  | .ptr _ _, y, h => by cases y <;> simp_all [beqA]
  | .bsl _ _ _ _ _, y, h => by cases y <;> simp_all [beqA]
  | .mp _, y, h => by cases y <;> simp_all [beqA]
  | .cp x, y, h => by
    cases y <;> simp only [beqA, Bool.false_eq_true] at h
    rw [beqDs_ok x _ h]
  | .fn _ x, y, h => by
    cases y <;> simp only [beqA, Bool.and_eq_true, decide_eq_true_eq, Bool.false_eq_true] at h
    obtain ⟨rfl, h⟩ := h
    rw [beqAs_ok x _ h]
  | .agg x, y, h => by
    cases y <;> simp only [beqA, Bool.false_eq_true] at h
    rw [beqAs_ok x _ h]
  | .tup x, y, h => by
    cases y <;> simp only [beqA, Bool.false_eq_true] at h
    rw [beqAs_ok x _ h]
theorem beqAs_ok : ∀ x y : List AV, beqAs x y = true → x = y
  | [], y, h => by cases y; rfl; simp [beqAs] at h
  | x :: xs, y, h => by
    cases y with
    | nil => simp [beqAs] at h
    | cons y ys =>
      simp only [beqAs, Bool.and_eq_true] at h
      rw [beqA_ok x y h.1, beqAs_ok xs ys h.2]
end
def beqB (x y : Option (Option (TypeId × List AV))) : Bool := match x, y with
  | none, none => true
  | some none, some none => true
  | some (some a), some (some b) => decide (a.1 = b.1) && beqAs a.2 b.2
  | _, _ => false
theorem beqB_ok {x y : Option (Option (TypeId × List AV))} (h : beqB x y = true) : x = y := by
  unfold beqB at h
  split at h
  · rfl
  · rfl
  · simp only [Bool.and_eq_true, decide_eq_true_eq] at h
    rename_i a b
    obtain ⟨a1, a2⟩ := a
    obtain ⟨b1, b2⟩ := b
    simp only at h
    rw [h.1, beqAs_ok _ _ h.2]
  · cases h
def keepE (L : List Nat) (m0 m : Mem) : Bool := L.all fun id => beqB m.box[id]? m0.box[id]?
theorem keepE_ok {L : List Nat} {m0 m : Mem} (h : keepE L m0 m = true) : keepL L m0 m := fun id hi => beqB_ok (List.all_eq_true.1 h id hi)
/-- every order; what is not in F leaves S as it is -/
def anyS (P : Program) (md : Region.Mode) (ops : Array Oper) (S : Mem → Prop) (F : List Nat) : Nat → Array Bool → (St → Prop) → St → Prop
  | 0, listed, K, s => Region.ready md ops listed = [] ∧ K s
  | fuel + 1, listed, K, s => (Region.ready md ops listed = [] → K s) ∧ ∀ i ∈ Region.ready md ops listed, opI P ops i (fun s' => ((S s.m → S s'.m) ∨ i ∈ F) ∧ anyS P md ops S F fuel (listed.setIfInBounds i true) K s') s
section
variable {ops : Array Oper} {S : Mem → Prop} {F : List Nat} {md : Region.Mode}
theorem anyS_T {K : St → Prop} : ∀ (fuel : Nat) (listed : Array Bool) (s : St), anyS P md ops S F fuel listed K s → anyT P md ops (fun _ => True) [] fuel listed K s
  | 0, _, _, h => h
  | fuel + 1, _, _, h => ⟨h.1, fun i hi => opI_mono (fun s' hs' => ⟨.inl trivial, anyS_T fuel _ s' hs'.2⟩) (h.2 i hi)⟩
theorem any_firstS {i : Nat} {oi : Oper} {v : AV} {K : St → Prop} (hi : ops[i]? = some oi) {S' : Mem → Prop} (hL : (∀ m, S' m) ∨ (S' = S ∧ ∀ j ∈ F, reachB md ops i ops.size j = true)) :
    ∀ (fuel : Nat) (listed : Array Bool) (s : St), ShutL md ops listed →
      (∀ j oj, ops[j]? = some oj → j ≠ i → listed.getD j true = false → (∀ e ∈ oj.after, Region.binds md e = true → e.on ≠ i) → oi.apart ops oj = true) →
      i ∈ Region.ready md ops listed → Yld P ops S' oi v s → S' s.m →
      anyS P md ops S F fuel (listed.setIfInBounds i true) K (s.put oi.dst v) → anyS P md ops S F (fuel + 1) listed K s := by
  intro fuel
  induction fuel with
  | zero =>
    intro listed s _ _ hr hy hS H
    refine ⟨fun h => (by rw [h] at hr; cases hr), fun j hj => ?_⟩
    by_cases hji : j = i
    · subst hji; exact hy.run hi hS ⟨.inl (fun h => by rw [(put_m _ _ _).1]; exact h), H⟩
    · have := ready_mono hj hji
      rw [H.1] at this
      cases this
  | succ fuel ih =>
    intro listed s hshut hfree hr hy hS H
    refine ⟨fun h => (by rw [h] at hr; cases hr), fun j hj => ?_⟩
    by_cases hji : j = i
    · subst hji; exact hy.run hi hS ⟨.inl (fun h => by rw [(put_m _ _ _).1]; exact h), H⟩
    · have h1 := H.2 j (ready_mono hj hji)
      obtain ⟨hjun, oj, hoj, hall⟩ := mem_ready.1 hj
      have hinot : listed.getD i false = true → False := fun h1 => by
        have h0 := (mem_ready.1 hr).1
        rcases Nat.lt_or_ge i listed.size with h' | h'
        · simp [h'] at h0 h1; rw [h0] at h1; cases h1
        · simp [Array.getElem?_eq_none h'] at h1
      have hnot : ∀ e ∈ oj.after, Region.binds md e = true → e.on ≠ i := fun e he hb heq => by
        have h1 := hall e he hb
        rw [heq] at h1
        exact hinot h1
      have h2 := opI_put hoj (hfree j oj hoj hji hjun hnot) hy h1
      have hfree' : ∀ k ok, ops[k]? = some ok → k ≠ i → (listed.setIfInBounds j true).getD k true = false →
          (∀ e ∈ ok.after, Region.binds md e = true → e.on ≠ i) → oi.apart ops ok = true := fun k ok hk hki hun hno => by
        refine hfree k ok hk hki ?_ hno
        by_cases hjk : j = k
        · subst hjk; exact hjun
        · rw [getD_set_ne true hjk] at hun; exact hun
      refine opI_mono (fun s' h3 => ?_) h2
      have hc : (S s.m → S s'.m) ∨ j ∈ F := by
        have := h3.2.1
        rwa [(put_m _ _ _).1, (put_m _ _ _).1] at this
      have hS' : S' s'.m := by
        rcases hL with hL | ⟨hL, hF⟩
        · exact hL _
        · subst hL
          exact hc.resolve_right (fun hjF => hinot (reach_listed hshut _ j oj hoj hall (hF j hjF))) hS
      refine ⟨hc, ih (listed.setIfInBounds j true) s' (shutL_set hshut hoj hall) hfree' (ready_mono hr (Ne.symm hji)) h3.1 hS' ?_⟩
      rw [Array.setIfInBounds_comm _ _ hji]
      exact h3.2.2
end
/-- is it an order that serves? 0: nothing else is ready; 1: taken first; 2: taken first, without a look at memory -/
def chkQ (ops : Array Oper) (F : List Nat) : List (Nat × Nat) → Array Bool → Bool
  | [], listed => (Region.ready .any ops listed).isEmpty
  | (i, 1) :: rest, listed => (Region.ready .any ops listed).contains i && Region.free .any ops listed i && F.all (fun j => reachB .any ops i ops.size j) && shutB .any ops listed && chkQ ops F rest (listed.setIfInBounds i true)
  | (i, 2) :: rest, listed => (Region.ready .any ops listed).contains i && Region.free .any ops listed i && shutB .any ops listed && chkQ ops F rest (listed.setIfInBounds i true)
  | (i, 0) :: rest, listed => (Region.ready .any ops listed == [i]) && chkQ ops F rest (listed.setIfInBounds i true)
  | (_, _ + 3) :: _, _ => false
/-- the operations of a drawn region in the order ord; al: the boxes in L are as they were -/
def opsQE (P : Program) (X : Cl) (Y : Pu) (md : Nat → Nat) (ops : Array Oper) (L : List Nat) (F : List Nat) : List (Nat × Nat) → Bool → St → Option St
  | [], _, s => some s
  | (i, 1) :: rest, al, s => if al = true then (match ops[i]? with
    | none => none
    | some o => (match wantE ops s o with
      | some true => (match firstE P Y L s.eval s.m o with
        | some r => opsQE P X Y md ops L F rest al (s.put o.dst r)
        | none => none)
      | some false => opsQE P X Y md ops L F rest al (s.put o.dst (.tup []))
      | none => none)) else none
  | (i, 2) :: rest, al, s => (match ops[i]? with
    | none => none
    | some o => (match wantE ops s o with
      | some true => (match firstE P Y [] s.eval s.m o with
        | some r => opsQE P X Y md ops L F rest al (s.put o.dst r)
        | none => none)
      | some false => opsQE P X Y md ops L F rest al (s.put o.dst (.tup []))
      | none => none))
  | (_, _ + 3) :: _, _, _ => none
  | (i, 0) :: rest, al, s => (match ops[i]? with
    | none => none
    | some o => (match wantE ops s o with
      | some true => (match opE P X md s.eval s.m o with
        | some (r, m') => (match keepE L s.m m' with
          | true => opsQE P X Y md ops L F rest al (({ s with m := m' } : St).put o.dst r)
          | false => if F.contains i = true then opsQE P X Y md ops L F rest false (({ s with m := m' } : St).put o.dst r) else none)
        | none => none)
      | some false => opsQE P X Y md ops L F rest al (s.put o.dst (.tup []))
      | none => none))
theorem keepL_trans {L : List Nat} {m0 m m' : Mem} (h : keepL L m0 m) (k : keepL L m m') : keepL L m0 m' := fun id hi => (k id hi).trans (h id hi)
theorem opsQE_ok {X : Cl} (hX : ClOk P X) {Y : Pu} (hY : PuOk P Y) {md : Nat → Nat} {ops : Array Oper} {L : List Nat} {m0 : Mem} {F : List Nat} {s1 : St} {K : St → Prop} (hK : K s1) : ∀ (ord : List (Nat × Nat)) (listed : Array Bool) (al : Bool) (s : St), chkQ ops F ord listed = true → opsQE P X Y md ops L F ord al s = some s1 → (al = true → keepL L m0 s.m) → ∀ fuel, ord.length ≤ fuel → anyS P .any ops (keepL L m0) F fuel listed K s
  | [], listed, al, s, hc, h, _, fuel, _ => by
    unfold opsQE at h
    cases h
    unfold chkQ at hc
    have hr : Region.ready .any ops listed = [] := by simpa using hc
    cases fuel with
    | zero => exact ⟨hr, hK⟩
    | succ n => exact ⟨fun _ => hK, by rw [hr]; simp⟩
  | (i, 1) :: rest, listed, al, s, hc, h, hS, fuel, hf => by
    cases fuel with
    | zero => simp at hf
    | succ n =>
      have hn : rest.length ≤ n := by simpa using hf
      simp only [chkQ] at hc
      simp only [opsQE] at h
      simp only [Bool.and_eq_true] at hc
      obtain ⟨⟨⟨⟨h1, h2⟩, h3⟩, h4⟩, h5⟩ := hc
      split at h
      · rename_i hal
        have hS' : keepL L m0 s.m := hS hal
        split at h
        · cases h
        · rename_i o ho
          have fin : ∀ r, Yld P ops (keepL L m0) o r s → opsQE P X Y md ops L F rest al (s.put o.dst r) = some s1 → anyS P .any ops (keepL L m0) F (n + 1) listed K s := fun r hy hr =>
            any_firstS ho (.inr ⟨rfl, List.all_eq_true.1 h3⟩) n listed s (shutB_spec h4) (Region.free_spec ho h2) (by simpa using h1) hy hS' (opsQE_ok hX hY hK rest _ _ _ h5 hr (fun _ => by rw [(put_m _ _ _).1]; exact hS') n hn)
          split at h
          · rename_i hw
            split at h
            · rename_i r hr
              obtain ⟨r', q1, q2⟩ := first_spec (L := L) (m0 := m0) hS' (firstE_ok hY hr (K := fun x => x = r) rfl)
              subst q1
              exact fin r' (.inl ⟨fun _ _ hA => wantE_t hw hA, fun m' hm' K' hK' => q2 m' hm' K' hK'⟩) h
            · cases h
          · rename_i hw
            exact fin _ (.inr ⟨fun _ _ hB => wantE_f hw hB, rfl⟩) h
          · cases h
      · cases h
  | (i, 2) :: rest, listed, al, s, hc, h, hS, fuel, hf => by
    cases fuel with
    | zero => simp at hf
    | succ n =>
      have hn : rest.length ≤ n := by simpa using hf
      simp only [chkQ] at hc
      simp only [opsQE] at h
      simp only [Bool.and_eq_true] at hc
      obtain ⟨⟨⟨h1, h2⟩, h4⟩, h5⟩ := hc
      split at h
      · cases h
      · rename_i o ho
        have fin : ∀ r, Yld P ops (fun _ => True) o r s → opsQE P X Y md ops L F rest al (s.put o.dst r) = some s1 → anyS P .any ops (keepL L m0) F (n + 1) listed K s := fun r hy hr =>
          any_firstS ho (S' := fun _ => True) (.inl fun _ => trivial) n listed s (shutB_spec h4) (Region.free_spec ho h2) (by simpa using h1) hy trivial (opsQE_ok hX hY hK rest _ _ _ h5 hr (fun ha => by rw [(put_m _ _ _).1]; exact hS ha) n hn)
        split at h
        · rename_i hw
          split at h
          · rename_i r hr
            obtain ⟨r', q1, q2⟩ := first_spec (L := []) (m0 := m0) (fun _ h => by cases h) (firstE_ok hY hr (K := fun x => x = r) rfl)
            subst q1
            exact fin r' (.inl ⟨fun _ _ hA => wantE_t hw hA, fun m' _ K' hK' => q2 m' (fun _ h => by cases h) K' hK'⟩) h
          · cases h
        · rename_i hw
          exact fin _ (.inr ⟨fun _ _ hB => wantE_f hw hB, rfl⟩) h
        · cases h
  | (i, 0) :: rest, listed, al, s, hc, h, hS, fuel, hf => by
    cases fuel with
    | zero => simp at hf
    | succ n =>
      have hn : rest.length ≤ n := by simpa using hf
      simp only [chkQ] at hc
      simp only [opsQE] at h
      simp only [Bool.and_eq_true, beq_iff_eq] at hc
      obtain ⟨h1, h2⟩ := hc
      split at h
      · cases h
      · rename_i o ho
        refine ⟨fun h0 => (by rw [h1] at h0; cases h0), fun j hj => ?_⟩
        rw [h1, List.mem_singleton] at hj
        subst hj
        unfold opI
        rw [ho]
        split at h
        · rename_i hw
          split at h
          · rename_i r m' hr
            refine wantE_t hw (opE_ok hX hr ?_)
            split at h
            · rename_i hq
              have hk := keepE_ok hq
              refine ⟨.inl fun hs => by rw [(put_m _ _ _).1]; exact keepL_trans hs hk, opsQE_ok hX hY hK rest _ _ _ h2 h (fun ha => by rw [(put_m _ _ _).1]; exact keepL_trans (hS ha) hk) n hn⟩
            · split at h
              · rename_i hF
                exact ⟨.inr (by simpa using hF), opsQE_ok hX hY hK rest _ _ _ h2 h (fun ha => by cases ha) n hn⟩
              · cases h
          · cases h
        · rename_i hw
          refine wantE_f hw ?_
          exact ⟨.inl fun hs => by rw [(put_m _ _ _).1]; exact hs, opsQE_ok hX hY hK rest _ _ _ h2 h (fun ha => by rw [(put_m _ _ _).1]; exact hS ha) n hn⟩
        · cases h
  | (_, _ + 3) :: _, _, _, _, hc, _, _, _, _ => by simp [chkQ] at hc
def beqR (x y : Option RowI) : Bool := match x, y with
  | none, none => true
  | some a, some b => decide (a.e = b.e) && (decide (a.size = b.size) && decide (a.n = b.n))
  | _, _ => false
theorem beqR_ok {x y : Option RowI} (h : beqR x y = true) : x = y := by
  unfold beqR at h
  split at h
  · rfl
  · rename_i a b
    simp only [Bool.and_eq_true, decide_eq_true_eq] at h
    obtain ⟨h1, h2, h3⟩ := h
    cases a; cases b
    simp only at h1 h2 h3
    subst h1 h2 h3
    rfl
  · cases h
def beqL {α : Type} (f : α → α → Bool) : List α → List α → Bool
  | [], [] => true
  | x :: l, y :: r => f x y && beqL f l r
  | _, _ => false
theorem beqL_ok {α : Type} {f : α → α → Bool} (hf : ∀ x y, f x y = true → x = y) : ∀ l r : List α, beqL f l r = true → l = r
  | [], [], _ => rfl
  | [], _ :: _, h => by simp [beqL] at h
  | _ :: _, [], h => by simp [beqL] at h
  | x :: l, y :: r, h => by
    simp only [beqL, Bool.and_eq_true] at h
    rw [hf x y h.1, beqL_ok hf l r h.2]
def chkS (D : List Nat) (s1 s' : St) : Bool := decide (s'.n = s1.n) && (beqL (fun a b => beqB (some a) (some b)) s'.m.box s1.m.box && (beqL beqR s'.m.row s1.m.row && D.all fun i => beqA (s'.t i) (s1.t i)))
/-- s1 at the temporaries in D, else s -/
def mixS (D : List Nat) (s s1 : St) : St := ⟨fun i => if D.contains i = true then s1.t i else s.t i, s1.n, s1.m⟩
theorem chkS_ok {D : List Nat} {s s1 s' : St} (h : chkS D s1 s' = true) (hT : ∀ i, D.contains i = false → s'.t i = s.t i) : s' = mixS D s s1 := by
  unfold chkS at h
  simp only [Bool.and_eq_true, decide_eq_true_eq] at h
  obtain ⟨h1, h2, h3, h4⟩ := h
  have e2 := beqL_ok (fun x y h => by have := beqB_ok h; simpa using this) _ _ h2
  have e3 := beqL_ok (fun x y h => beqR_ok h) _ _ h3
  obtain ⟨t, n, ⟨b, r⟩⟩ := s'
  obtain ⟨t1, n1, ⟨b1, r1⟩⟩ := s1
  simp only at h1 e2 e3 hT h4
  subst h1 e2 e3
  have : t = fun i => if D.contains i = true then t1 i else s.t i := by
    funext i
    split
    · rename_i hi
      exact beqA_ok _ _ (List.all_eq_true.1 h4 i (by simpa using hi))
    · rename_i hi
      exact hT i (by simpa using hi)
  unfold mixS
  rw [this]
def kdOf (ord : List (Nat × Nat)) (i : Nat) : Nat := match ord.find? fun x => Nat.beq x.1 i with
  | some x => x.2
  | none => 0
/-- an operation that may be taken first -/
def tryE (P : Program) (Y : Pu) (ops : Array Oper) (L F : List Nat) (kd : Nat → Nat) (listed : Array Bool) (al : Bool) (s : St) (i : Nat) : Option (Nat × Oper × AV) :=
  if kd i = 0 then none else if (shutB .any ops listed && Region.free .any ops listed i) = true then (match ops[i]? with
    | none => none
    | some o => if kd i = 1 then (if (al && F.all (fun j => reachB .any ops i ops.size j)) = true then (match wantE ops s o with
        | some true => (match firstE P Y L s.eval s.m o with
          | some r => some (i, o, r)
          | none => none)
        | some false => some (i, o, .tup [])
        | none => none) else none)
      else (match wantE ops s o with
        | some true => (match firstE P Y [] s.eval s.m o with
          | some r => some (i, o, r)
          | none => none)
        | some false => some (i, o, .tup [])
        | none => none)) else none
/-- all orders in which a drawn region's effects may come end in one state -/
def treeE (P : Program) (X : Cl) (Y : Pu) (md : Nat → Nat) (ops : Array Oper) (L F : List Nat) (kd : Nat → Nat) (chk : St → Bool) : Nat → Array Bool → Bool → St → Bool
  | 0, listed, _, s => (Region.ready .any ops listed).isEmpty && chk s
  | fuel + 1, listed, al, s => match (Region.ready .any ops listed).findSome? (tryE P Y ops L F kd listed al s) with
    | some (i, o, r) => treeE P X Y md ops L F kd chk fuel (listed.setIfInBounds i true) al (s.put o.dst r)
    | none => (!(Region.ready .any ops listed).isEmpty || chk s) && (Region.ready .any ops listed).all fun i => (match ops[i]? with
      | none => false
      | some o => (match wantE ops s o with
        | some true => (match opE P X md s.eval s.m o with
          | some (r, m') => (match keepE L s.m m' with
            | true => treeE P X Y md ops L F kd chk fuel (listed.setIfInBounds i true) al (({ s with m := m' } : St).put o.dst r)
            | false => F.contains i && treeE P X Y md ops L F kd chk fuel (listed.setIfInBounds i true) false (({ s with m := m' } : St).put o.dst r))
          | none => false)
        | some false => treeE P X Y md ops L F kd chk fuel (listed.setIfInBounds i true) al (s.put o.dst (.tup []))
        | none => false))
/-- where the first of these orders ends -/
def treeS (P : Program) (X : Cl) (Y : Pu) (md : Nat → Nat) (ops : Array Oper) (L F : List Nat) (kd : Nat → Nat) : Nat → Array Bool → Bool → St → Option St
  | 0, _, _, s => some s
  | fuel + 1, listed, al, s => match (Region.ready .any ops listed).findSome? (tryE P Y ops L F kd listed al s) with
    | some (i, o, r) => treeS P X Y md ops L F kd fuel (listed.setIfInBounds i true) al (s.put o.dst r)
    | none => (match Region.ready .any ops listed with
      | [] => some s
      | i :: _ => (match ops[i]? with
        | none => none
        | some o => (match wantE ops s o with
          | some true => (match opE P X md s.eval s.m o with
            | some (r, m') => treeS P X Y md ops L F kd fuel (listed.setIfInBounds i true) (al && keepE L s.m m') (({ s with m := m' } : St).put o.dst r)
            | none => none)
          | some false => treeS P X Y md ops L F kd fuel (listed.setIfInBounds i true) al (s.put o.dst (.tup []))
          | none => none)))
theorem tryE_ok {Y : Pu} (hY : PuOk P Y) {ops : Array Oper} {L F : List Nat} {kd : Nat → Nat} {listed : Array Bool} {al : Bool} {s : St} {i i' : Nat} {o : Oper} {r : AV} {m0 : Mem} (hS : al = true → keepL L m0 s.m)
    (h : tryE P Y ops L F kd listed al s i = some (i', o, r)) : i' = i ∧ ops[i]? = some o ∧ shutB .any ops listed = true ∧ Region.free .any ops listed i = true ∧
      ((al = true ∧ (∀ j ∈ F, reachB .any ops i ops.size j = true) ∧ Yld P ops (keepL L m0) o r s) ∨ Yld P ops (fun _ => True) o r s) := by
  unfold tryE at h
  split at h
  · cases h
  · split at h
    · rename_i hsf
      simp only [Bool.and_eq_true] at hsf
      split at h
      · cases h
      · rename_i o' ho
        split at h
        · split at h
          · rename_i ha
            simp only [Bool.and_eq_true] at ha
            split at h
            · rename_i hw
              split at h
              · rename_i r' hr
                cases h
                obtain ⟨r2, q1, q2⟩ := first_spec (L := L) (m0 := m0) (hS ha.1) (firstE_ok hY hr (K := fun x => x = r) rfl)
                subst q1
                exact ⟨rfl, ho, hsf.1, hsf.2, .inl ⟨ha.1, List.all_eq_true.1 ha.2, .inl ⟨fun _ _ hA => wantE_t hw hA, fun m' hm' K' hK' => q2 m' hm' K' hK'⟩⟩⟩
              · cases h
            · rename_i hw
              cases h
              exact ⟨rfl, ho, hsf.1, hsf.2, .inl ⟨ha.1, List.all_eq_true.1 ha.2, .inr ⟨fun _ _ hB => wantE_f hw hB, rfl⟩⟩⟩
            · cases h
          · cases h
        · split at h
          · rename_i hw
            split at h
            · rename_i r' hr
              cases h
              obtain ⟨r2, q1, q2⟩ := first_spec (L := []) (m0 := m0) (fun _ h => by cases h) (firstE_ok hY hr (K := fun x => x = r) rfl)
              subst q1
              exact ⟨rfl, ho, hsf.1, hsf.2, .inr (.inl ⟨fun _ _ hA => wantE_t hw hA, fun m' _ K' hK' => q2 m' (fun _ h => by cases h) K' hK'⟩)⟩
            · cases h
          · rename_i hw
            cases h
            exact ⟨rfl, ho, hsf.1, hsf.2, .inr (.inr ⟨fun _ _ hB => wantE_f hw hB, rfl⟩)⟩
          · cases h
    · cases h
theorem treeE_ok {X : Cl} (hX : ClOk P X) {Y : Pu} (hY : PuOk P Y) {md : Nat → Nat} {ops : Array Oper} {L : List Nat} {m0 : Mem} {F : List Nat} {kd : Nat → Nat} {chk : St → Bool} {T : (Nat → AV) → Prop} {K : St → Prop}
    (hK : ∀ s, chk s = true → T s.t → K s) (hT : ∀ (i : Nat) (o : Oper), ops[i]? = some o → ∀ (s : St) (r : AV), T s.t → T (s.put o.dst r).t) :
    ∀ (fuel : Nat) (listed : Array Bool) (al : Bool) (s : St), treeE P X Y md ops L F kd chk fuel listed al s = true → (al = true → keepL L m0 s.m) → T s.t → anyS P .any ops (keepL L m0) F fuel listed K s
  | 0, listed, al, s, h, _, ht => by
    simp only [treeE, Bool.and_eq_true, List.isEmpty_iff] at h
    exact ⟨h.1, hK s h.2 ht⟩
  | fuel + 1, listed, al, s, h, hS, ht => by
    have ih := treeE_ok hX hY (md := md) (L := L) (m0 := m0) (F := F) (kd := kd) hK hT fuel
    unfold treeE at h
    split at h
    · rename_i i o r hf
      obtain ⟨j, hj, hf⟩ := List.exists_of_findSome?_eq_some hf
      obtain ⟨rfl, ho, h1, h2, h3⟩ := tryE_ok hY (m0 := m0) hS hf
      have hr := ih (listed.setIfInBounds i true) al (s.put o.dst r) h (fun ha => by rw [(put_m _ _ _).1]; exact hS ha) (hT i o ho s r ht)
      rcases h3 with ⟨q1, q2, q3⟩ | q3
      · exact any_firstS ho (.inr ⟨rfl, q2⟩) fuel listed s (shutB_spec h1) (Region.free_spec ho h2) hj q3 (hS q1) hr
      · exact any_firstS ho (S' := fun _ => True) (.inl fun _ => trivial) fuel listed s (shutB_spec h1) (Region.free_spec ho h2) hj q3 trivial hr
    · simp only [Bool.and_eq_true, Bool.or_eq_true, Bool.not_eq_true', List.all_eq_true] at h
      obtain ⟨h1, h2⟩ := h
      refine ⟨fun he => ?_, fun j hj => ?_⟩
      · rw [he] at h1
        exact hK s (h1.resolve_left (by simp)) ht
      have h3 := h2 j hj
      split at h3
      · cases h3
      · rename_i o ho
        unfold opI
        rw [ho]
        split at h3
        · rename_i hw
          split at h3
          · rename_i r m' hr
            refine wantE_t hw (opE_ok hX hr ?_)
            have ht' : T (({ s with m := m' } : St).put o.dst r).t := hT j o ho { s with m := m' } r ht
            split at h3
            · rename_i hq
              have hk := keepE_ok hq
              exact ⟨.inl fun hs => by rw [(put_m _ _ _).1]; exact keepL_trans hs hk, ih _ _ _ h3 (fun ha => by rw [(put_m _ _ _).1]; exact keepL_trans (hS ha) hk) ht'⟩
            · simp only [Bool.and_eq_true] at h3
              exact ⟨.inr (by simpa using h3.1), ih _ _ _ h3.2 (fun ha => by cases ha) ht'⟩
          · cases h3
        · rename_i hw
          refine wantE_f hw ?_
          exact ⟨.inl fun hs => by rw [(put_m _ _ _).1]; exact hs, ih _ _ _ h3 (fun ha => by rw [(put_m _ _ _).1]; exact hS ha) (hT j o ho s _ ht)⟩
        · cases h3
def dsts (ops : Array Oper) : List Nat := ops.toList.filterMap (·.dst)
theorem dsts_put {ops : Array Oper} {s0 : St} {i : Nat} {o : Oper} (ho : ops[i]? = some o) {s : St} {r : AV} (ht : ∀ j, (dsts ops).contains j = false → s.t j = s0.t j) : ∀ j, (dsts ops).contains j = false → (s.put o.dst r).t j = s0.t j := fun j hj => by
  unfold St.put
  split
  · rename_i d hd
    split
    · show upd s.t d r j = s0.t j
      rw [upd_ne]
      · exact ht j hj
      · rintro rfl
        have hm : j ∈ dsts ops := List.mem_filterMap.2 ⟨o, by rw [Array.mem_toList_iff]; exact Array.mem_of_getElem? ho, hd⟩
        simp [hm] at hj
    · exact ht j hj
  · exact ht j hj
theorem PW.drawQ {id : Nat} {l : List Oper} {Q : Exit → St → Prop} {s : St} (hmx : P.follows .mixedOrders = true) (L : List Nat) (F : List Nat)
    (h : anyS P .any l.toArray (keepL L s.m) F l.length (Array.replicate l.length false) (Q .normal) s) : PW P (.region id l.toArray true) Q s := by
  intro G a w hs
  have hdrew : Below w.heap.size w w.drew := (Below.refl _ w).drew
  have hs' : StR G s a w.drew := ⟨hs.mem.below hdrew, fun i => (hs.t i).mono (ev_below hdrew), hs.n, hs.df⟩
  refine wp_region_any hmx ?_
  rw [show l.toArray.size = l.length by simp]
  exact any_sound (s0 := s) (G0 := G) (w0 := w) (K := Q .normal) (fun G' s' a' w' h1 h2 h3 => ⟨G', s', h1, h2, h3⟩) l.length _ s G a w.drew (anyS_T _ _ _ h) hs' (ev_below hdrew)
/-- a function's words: which literals are rows (1) or boxes (2); a drawn region's order, what is free in it, which boxes stay (none: all) -/
structure Wd where
  md : Nat → Nat
  dr : Nat → List (Nat × Nat) × List Nat
/-- the boxes that a region leaves as they are -/
def dryL (P : Program) (X : Cl) (md : Nat → Nat) (ops : Array Oper) (ord : List (Nat × Nat)) (s : St) : List Nat := match opsE P X md ops (ord.filterMap fun x => ops[x.1]?) s with
  | some s' => (List.range s.m.box.length).filter fun id => beqB s'.m.box[id]? s.m.box[id]?
  | none => []
def drawT (P : Program) (X : Cl) (Y : Pu) (W : Wd) (id : Nat) (ops : Array Oper) (L : List Nat) (s : St) : Option St := match treeS P X Y W.md ops L (W.dr id).2 (kdOf (W.dr id).1) ops.size (Array.replicate ops.size false) true s with
  | some s1 => if treeE P X Y W.md ops L (W.dr id).2 (kdOf (W.dr id).1) (chkS (dsts ops) s1) ops.size (Array.replicate ops.size false) true s = true then some (mixS (dsts ops) s s1) else none
  | none => none
theorem drawT_ok {X : Cl} (hX : ClOk P X) {Y : Pu} (hY : PuOk P Y) {W : Wd} {id : Nat} {l : List Oper} {L : List Nat} {s s' : St} (hmx : P.follows .mixedOrders = true) (h : drawT P X Y W id l.toArray L s = some s') : PW P (.region id l.toArray true) (fun e2 s2 => e2 = .normal ∧ s2 = s') s := by
  unfold drawT at h
  split at h
  · rename_i s1 h2
    split at h
    · rename_i ht
      cases h
      exact PW.drawQ hmx _ _ (treeE_ok hX hY (T := fun t => ∀ i, (dsts l.toArray).contains i = false → t i = s.t i) (K := fun s2 => Exit.normal = Exit.normal ∧ s2 = _) (fun s2 hc hT => ⟨rfl, chkS_ok hc hT⟩) (fun i o ho s2 r hT => dsts_put ho hT) _ _ _ _ (by simpa using ht) (fun _ id _ => rfl) (fun _ _ => rfl))
    · cases h
  · cases h
def drawE (P : Program) (X : Cl) (Y : Pu) (W : Wd) (id : Nat) (ops : Array Oper) (s : St) : Option St :=
  if P.follows .mixedOrders = true then (match (if chkQ ops (W.dr id).2 (W.dr id).1 (Array.replicate ops.size false) = true ∧ (W.dr id).1.length ≤ ops.size then (match opsQE P X Y W.md ops (List.range s.m.box.length) (W.dr id).2 (W.dr id).1 true s with
      | some s' => some s'
      | none => opsQE P X Y W.md ops (dryL P X W.md ops (W.dr id).1 s) (W.dr id).2 (W.dr id).1 true s) else none) with
    | some s' => some s'
    | none => (match drawT P X Y W id ops (List.range s.m.box.length) s with
      | some s1 => some s1
      | none => drawT P X Y W id ops (dryL P X W.md ops (W.dr id).1 s) s)) else none
theorem drawE_ok {X : Cl} (hX : ClOk P X) {Y : Pu} (hY : PuOk P Y) {W : Wd} {id : Nat} {l : List Oper} {s s' : St} (h : drawE P X Y W id l.toArray s = some s') : PW P (.region id l.toArray true) (fun e2 s2 => e2 = .normal ∧ s2 = s') s := by
  unfold drawE at h
  split at h
  · rename_i hmx
    split at h
    · rename_i s2 h1
      cases h
      split at h1
      · rename_i hc
        split at h1
        · rename_i h2
          cases h1
          exact PW.drawQ hmx _ _ (opsQE_ok hX hY (K := fun s2 => Exit.normal = Exit.normal ∧ s2 = _) ⟨rfl, rfl⟩ _ _ _ _ (by simpa using hc.1) h2 (fun _ id _ => rfl) _ (by simpa using hc.2))
        · exact PW.drawQ hmx _ _ (opsQE_ok hX hY (K := fun s2 => Exit.normal = Exit.normal ∧ s2 = _) ⟨rfl, rfl⟩ _ _ _ _ (by simpa using hc.1) h1 (fun _ id _ => rfl) _ (by simpa using hc.2))
      · cases h1
    · split at h
      · rename_i h1
        cases h
        exact drawT_ok hX hY hmx h1
      · exact drawT_ok hX hY hmx h
  · cases h
/-- a nil slice in a box's field to which the region appends -/
def nilB (P : Program) (ops : Array Oper) (s : St) : Option (Nat × Nat × TypeId × Nat) := ops.toList.findSome? fun o => match o.op with
  | .call c => (match c.callee, c.args.toList, c.argTypes.toList with
    | .builtin .append, .tmp i :: _, t :: _ => (match elOf P t with
      | some (e, k) => ops.toList.findSome? fun o2 => if o2.dst = some i then (match o2.op with
          | .load _ (.tmp a) => (match (match ops.toList.find? (fun o3 => decide (o3.dst = some a)) with
              | some o3 => valE P s.eval s.m o3.op
              | none => some (s.t a)) with
            | some (.ptr id off) => some (id, off, e, k)
            | _ => none)
          | _ => none) else none
      | none => none)
    | _, _, _ => none)
  | _ => none
def tellB (P : Program) (ops : Array Oper) (s : St) : Option St := match nilB P ops s with
  | some (i, o, e, k) => if 0 < k then (match s.m.box[i]? with
    | some (some (e0, cs)) => (match cs[o]? with
      | some .nils => some ⟨s.t, s.n, ⟨s.m.box.set i (some (e0, cs.set o (.own s.m.row.length k []))), s.m.row ++ [some ⟨e, k, 0⟩]⟩⟩
      | _ => none)
    | _ => none) else none
  | none => none
theorem tellB_ok {ops : Array Oper} {s s' : St} (h : tellB P ops s = some s') {c : Code} {Q : Exit → St → Prop} (hp : PW P c Q s') : PW P c Q s := by
  unfold tellB at h
  split at h
  · split at h
    · rename_i hk
      split at h
      · rename_i e0 cs hb
        split at h
        · rename_i hc
          cases h
          exact PW.nil2box _ _ _ _ hb hc hk hp
        · cases h
      · cases h
    · cases h
  · cases h
def evC (P : Program) (X : Cl) (Y : Pu) (W : Wd) : Nat → Code → St → Option (Exit × St)
  | 0, _, _ => none
  | n + 1, c, s => match c with
    | .skip => some (.normal, s)
    | .exit id => some (.exit id, s)
    | .ret => some (.ret, s)
    | .goto l => some (.goto l, s)
    | .label _ => some (.normal, s)
    | .seq x y => (match evC P X Y W n x s with
      | some (.normal, s') => evC P X Y W n y s'
      | r => r)
    | .cond c x y => (match s.eval c with
      | .d (.bool true) => evC P X Y W n x s
      | .d (.bool false) => evC P X Y W n y s
      | _ => none)
    | .block id c => (match evC P X Y W n c s with
      | some (.exit id', s') => if id' = id then some (.normal, s') else some (.exit id', s')
      | r => r)
    | .loop c => (match evC P X Y W n c s with
      | some (.normal, s') => evC P X Y W n (.loop c) s'
      | r => r)
    | .region id ops draw => if draw = true then (match drawE P X Y W id ops s with
        | some s' => some (.normal, s')
        | none => (match tellB P ops s with
          | some s1 => (match drawE P X Y W id ops s1 with
            | some s' => some (.normal, s')
            | none => none)
          | none => none))
      else (match opsE P X W.md ops ops.toList s with
        | some s' => some (.normal, s')
        | none => none)
    | _ => none
theorem PW.loopR {c : Code} {Q : Exit → St → Prop} {n : Nat} {s : St} (h : roundsP P c Q n s) : PW P (.loop c) Q s := fun G a w hs =>
  wp_loop_rounds n (rounds_sound n s G a w h hs (.refl _ _ _))
theorem evC_ok {X : Cl} (hX : ClOk P X) {Y : Pu} (hY : PuOk P Y) {W : Wd} : ∀ (n : Nat) (c : Code) (s : St) (e : Exit) (s' : St), evC P X Y W n c s = some (e, s') →
    PW P c (fun e2 s2 => e2 = e ∧ s2 = s') s ∧ ∀ c', c = .loop c' → roundsP P c' (fun e2 s2 => e2 = e ∧ s2 = s') n s
  | 0, c, s, e, s', h => by simp [evC] at h
  | n + 1, c, s, e, s', h => by
    unfold evC at h
    split at h
    · cases h; exact ⟨PW.skip ⟨rfl, rfl⟩, fun _ h => by cases h⟩
    · cases h; exact ⟨PW.exit ⟨rfl, rfl⟩, fun _ h => by cases h⟩
    · cases h; exact ⟨PW.ret ⟨rfl, rfl⟩, fun _ h => by cases h⟩
    · cases h; exact ⟨PW.goto ⟨rfl, rfl⟩, fun _ h => by cases h⟩
    · cases h; exact ⟨PW.label ⟨rfl, rfl⟩, fun _ h => by cases h⟩
    · refine ⟨?_, fun _ h => by cases h⟩
      refine PW.seq fun K hK => ?_
      split at h
      · rename_i h1
        refine (evC_ok hX hY n _ _ _ _ h1).1.mono fun e2 s2 he => ?_
        obtain ⟨rfl, rfl⟩ := he
        exact hK _ (evC_ok hX hY n _ _ _ _ h).1
      · rename_i hn
        refine (evC_ok hX hY n _ _ _ _ h).1.mono fun e2 s2 he => ?_
        obtain ⟨rfl, rfl⟩ := he
        cases e2 <;> first
          | exact absurd h (hn _)
          | exact ⟨rfl, rfl⟩
    · refine ⟨?_, fun _ h => by cases h⟩
      split at h
      · rename_i h1; exact PW.cond h1 (fun _ => (evC_ok hX hY n _ _ _ _ h).1) (fun h => by cases h)
      · rename_i h1; exact PW.cond h1 (fun h => by cases h) (fun _ => (evC_ok hX hY n _ _ _ _ h).1)
      · cases h
    · refine ⟨?_, fun _ h => by cases h⟩
      refine PW.block ?_
      split at h
      · rename_i h1
        refine (evC_ok hX hY n _ _ _ _ h1).1.mono fun e2 s2 he => ?_
        obtain ⟨rfl, rfl⟩ := he
        simp only [blockP]
        split at h
        · rename_i hi; rw [if_pos hi]; cases h; exact ⟨rfl, rfl⟩
        · rename_i hi; rw [if_neg hi]; cases h; exact ⟨rfl, rfl⟩
      · rename_i hn
        refine (evC_ok hX hY n _ _ _ _ h).1.mono fun e2 s2 he => ?_
        obtain ⟨rfl, rfl⟩ := he
        cases e2 <;> first
          | exact absurd h (hn _ _)
          | exact ⟨rfl, rfl⟩
    · rename_i c' 
      have key : roundsP P c' (fun e2 s2 => e2 = e ∧ s2 = s') (n + 1) s := by
        refine rounds_more fun K hK => ?_
        split at h
        · rename_i h1
          refine (evC_ok hX hY n _ _ _ _ h1).1.mono fun e2 s2 he => ?_
          obtain ⟨rfl, rfl⟩ := he
          exact hK _ ((evC_ok hX hY n _ _ _ _ h).2 _ rfl)
        · rename_i hn
          refine (evC_ok hX hY n _ _ _ _ h).1.mono fun e2 s2 he => ?_
          obtain ⟨rfl, rfl⟩ := he
          cases e2 <;> first
            | exact absurd h (hn _)
            | exact ⟨rfl, rfl⟩
      exact ⟨PW.loopR key, fun c'' hc => by cases hc; exact key⟩
    · rename_i id ops draw
      refine ⟨?_, fun _ h => by cases h⟩
      obtain ⟨l⟩ := ops
      split at h
      · rename_i hd
        subst hd
        split at h
        · rename_i h1
          cases h
          exact drawE_ok hX hY h1
        · split at h
          · rename_i h2
            split at h
            · rename_i h1
              cases h
              exact tellB_ok h2 (drawE_ok hX hY h1)
            · cases h
          · cases h
      · rename_i hd
        have : draw = false := by cases draw; rfl; exact absurd rfl hd
        subst this
        split at h
        · rename_i s1 h1
          cases h
          intro G a w hs
          exact wp_region_lit (opsE_sound (s0 := s) (G0 := G) (w0 := w) hX (fun G' a' w' k1 k2 => ⟨G', _, k1, k2, rfl, rfl⟩) l s G a w h1 hs (.refl _ _ _))
        · cases h
    · cases h
def resE (P : Program) (s : St) : List ResultVar → Option (List AV)
  | [] => some []
  | .tmp t :: rs => (match resE P s rs with
    | some l => some (s.t t :: l)
    | none => none)
  | .cell a t :: rs => (match s.t a with
    | .ptr id off => (match s.m.box[id]? with
      | some (some b) => if b.1 < 4294967296 then (match loadE P t (b.2.drop off), resE P s rs with
        | some x, some l => some (x :: l)
        | _, _ => none) else none
      | _ => none)
    | _ => none)
theorem resE_ok {s : St} : ∀ (rs : List ResultVar) (l : List AV), resE P s rs = some l → ∀ K : List AV → Prop, K l → resP P s rs K
  | [], l, h, K, hK => by
    unfold resE at h
    cases h
    exact hK
  | .tmp t :: rs, l, h, K, hK => by
    unfold resE at h
    unfold resP
    split at h
    · rename_i h1
      cases h
      exact resE_ok rs _ h1 _ hK
    · cases h
  | .cell a t :: rs, l, h, K, hK => by
    unfold resE at h
    unfold resP
    split at h
    · rename_i h1
      simp only [h1]
      split at h
      · rename_i h2
        simp only [h2]
        split at h
        · rename_i h3
          split at h
          · rename_i h4 h5
            cases h
            exact ⟨h3, loadE_ok (K := fun x => resP P s rs fun l => K (x :: l)) h4 (resE_ok rs _ h5 _ hK)⟩
          · cases h
        · cases h
      · cases h
    · cases h
mutual
def lowB (n : Nat) : AV → Bool
  | .ptr id _ => decide (id < n)
  | .bsl id _ _ _ _ => decide (id < n)
  | .mp id => decide (id < n)
  | .fn _ cap => lowBs n cap
  | .agg cs => lowBs n cs
  | .tup cs => lowBs n cs
  | .junk => true
  | .d _ => true
  | .nils => true
  | .own _ _ _ => true
  | .cp _ => true
def lowBs (n : Nat) : List AV → Bool
  | [] => true
  | x :: xs => lowB n x && lowBs n xs
end
mutual
def lowR (n : Nat) : AV → Bool
  | .own r _ _ => decide (r < n)
  | .fn _ cap => lowRs n cap
  | .agg cs => lowRs n cs
  | .tup cs => lowRs n cs
  | .ptr _ _ => true
  | .bsl _ _ _ _ _ => true
  | .mp _ => true
  | .junk => true
  | .d _ => true
  | .nils => true
  | .cp _ => true
def lowRs (n : Nat) : List AV → Bool
  | [] => true
  | x :: xs => lowR n x && lowRs n xs
end
def boxesB (n : Nat) (l : List (Option (TypeId × List AV))) : Bool := l.all fun b => match b with
  | some b => lowBs n b.2
  | none => true
def boxesR (n : Nat) (l : List (Option (TypeId × List AV))) : Bool := l.all fun b => match b with
  | some b => lowRs n b.2
  | none => true
def finE (m : Mem) (r : AV) (m' : Mem) : Option (AV × Mem) :=
  match (if (lowB m.box.length r && boxesB m.box.length (m'.box.take m.box.length)) = true then m.box.length else m'.box.length) with
  | nb => match (if (lowR m.row.length r && boxesR m.row.length (m'.box.take nb)) = true then m.row.length else m'.row.length) with
    | nr => if nb ≤ m'.box.length ∧ nr ≤ m'.row.length ∧ m.box.length ≤ nb ∧ m.row.length ≤ nr then some (fg nb nr r, m'.cut nb nr) else none
theorem subM_cut {m' : Mem} {nb nr : Nat} (h1 : nb ≤ m'.box.length) (h2 : nr ≤ m'.row.length) : SubM m' (m'.cut nb nr) := by
  have hl := cut_len h1 h2
  refine ⟨by rw [hl.1]; exact h1, by rw [hl.2]; exact h2, fun j e cs' hb => ?_, fun j i hr => cut_row hr⟩
  obtain ⟨cs, k1, k2⟩ := cut_box hb
  refine ⟨cs, k1, ?_⟩
  rw [hl.1, hl.2, k2]
  exact cos_refl _
theorem finE_ok {m m' m2 : Mem} {r r2 : AV} (h : finE m r m' = some (r2, m2)) : Co (fg m2.box.length m2.row.length r) r2 ∧ SubM m' m2 ∧ m.box.length ≤ m2.box.length ∧ m.row.length ≤ m2.row.length := by
  unfold finE at h
  simp only at h
  generalize (if (lowB m.box.length r && boxesB m.box.length (m'.box.take m.box.length)) = true then m.box.length else m'.box.length) = nb at h
  generalize (if (lowR m.row.length r && boxesR m.row.length (m'.box.take nb)) = true then m.row.length else m'.row.length) = nr at h
  split at h
  · rename_i hc
    cases h
    have hl := cut_len hc.1 hc.2.1
    refine ⟨?_, subM_cut hc.1 hc.2.1, by rw [hl.1]; exact hc.2.2.1, by rw [hl.2]; exact hc.2.2.2⟩
    rw [hl.1, hl.2]
    exact co_refl _
  · cases h
def EvOk (P : Program) (X : Cl) : Prop := ∀ f args m r m', X f args m = some (r, m') → PFun P f args m r m'
def pureE (ev : Cl) : Pu := fun f args => if purAs (coAs args) = true then (match ev f (coAs args) nom with
  | some (r, ⟨[], []⟩) => some r
  | some (r, _) => some (fg 0 0 r)
  | none => none) else none
theorem subM_nom0 (m' : Mem) : SubM m' nom := ⟨Nat.zero_le _, Nat.zero_le _, fun j e cs' hb => by simp [nom] at hb, fun j i hr => by simp [nom] at hr⟩
/-- what a call made and nobody holds on to is data -/
theorem pure_of_pfun {f : Nat} {args : List AV} {r : AV} {m2 : Mem} (h : PFun P f args nom r m2) : Pure P f args (fg 0 0 r) := fun G w vs hm ha =>
  (h G w vs hm ha).mono fun v w' ⟨G', k1, k2, k3⟩ => by
    obtain ⟨-, -, b3, b4⟩ := subM_nom0 m2
    have sb : ∀ (j : Nat) e cs, nom.box[j]? = some (some (e, cs)) → ∃ cs', m2.box[j]? = some (some (e, cs')) := fun j e cs h => by simp [nom] at h
    exact ⟨G', k1.sub (subM_nom0 m2), ev_cut k2 (Nat.zero_le _) (Nat.zero_le _) sb b4, RelA.fg sb b4 (Nat.le_refl _) (Nat.le_refl _) r v k3⟩
def callE (ev : Cl) : Cl := fun f args m => if purAs (coAs args) = true then (match ev f (coAs args) nom with
  | some (r, ⟨[], []⟩) => if purA r = true then some (r, m) else ev f args m
  | some (r, m2) => some (ren (num [] m.box.length) (num [] m.row.length) r, embM m [] [] m2)
  | none => ev f args m) else ev f args m
theorem pureE_ok {ev : Cl} (h : EvOk P ev) : PuOk P (pureE ev) := fun f args r hr => by
  unfold pureE at hr
  split at hr
  · rename_i hp
    split at hr
    · rename_i h1
      cases hr
      exact ⟨h _ _ _ _ _ h1, hp⟩
    · rename_i h1
      cases hr
      exact ⟨pure_of_pfun (h _ _ _ _ _ h1), hp⟩
    · cases hr
  · cases hr
theorem callE_ok {ev : Cl} (h : EvOk P ev) : ClOk P (callE ev) := fun f args m r m' hr K hK => by
  have full : ev f args m = some (r, m') → callP P m f args K := fun h1 => .inr ⟨r, m', h _ _ _ _ _ h1, fun _ => hK⟩
  unfold callE at hr
  split at hr
  · rename_i hp
    split at hr
    · rename_i h1
      split at hr
      · cases hr
        exact callP_pure (cos_coAs args) hp (h _ _ _ _ _ h1) fun _ => hK
      · exact full hr
    · rename_i h1
      cases hr
      refine callP_emb [] [] (m1 := nom) ⟨by simp, by simp, rfl, rfl, fun k j hj => by simp at hj, fun a j hj => by simp at hj⟩ (cos_coAs args) ?_ (h _ _ _ _ _ h1) fun _ => hK
      rw [rens_pur _ hp]
    · exact full hr
  · exact full hr
def ExOk (P : Program) (E : Pu) : Prop := ∀ f args r, E f args = some r → Pure P f args r ∧ purAs args = true ∧ purA r = true
theorem pure_any {f : Nat} {args : List AV} {r : AV} (h : Pure P f args r) (h1 : purAs args = true) (h2 : purA r = true) (m : Mem) : PFun P f args m r m := by
  have := PFun.emb (m := m) (sb := []) (sr := []) h ⟨by simp, by simp, rfl, rfl, fun k j hj => by simp at hj, fun a j hj => by simp at hj⟩
  rw [rens_pur _ h1, ren_pur _ h2] at this
  have e : embM m [] [] nom = m := by unfold embM nom; simp [setAll]
  rw [e] at this
  exact this
def evF (P : Program) (T : Nat → Wd) (E : Pu) (fc : Nat) : Nat → Cl
  | 0 => fun _ _ _ => none
  | n + 1 => fun f args m => match E f args with
    | some r => some (r, m)
    | none => (match P.funcs[f]? with
      | none => none
      | some fn => (match fn.body with
        | none => none
        | some c => if (fn.name == "runtime.NumGoroutine") = false then (match evC P (callE (evF P T E fc n)) (pureE (evF P T E fc n)) (T f) fc c ⟨iniT args, args.length + (fn.ntmps - args.length), m⟩ with
          | some (.normal, s) => (match resE P s fn.results.toList with
            | some l => finE m (tupA l) s.m
            | none => none)
          | some (.ret, s) => (match resE P s fn.results.toList with
            | some l => finE m (tupA l) s.m
            | none => none)
          | _ => none) else none))
theorem evF_ok {T : Nat → Wd} {E : Pu} (hE : ExOk P E) {fc : Nat} : ∀ n : Nat, EvOk P (evF P T E fc n)
  | 0 => fun f args m r m' h => by simp [evF] at h
  | n + 1 => fun f args m r m' h => by
    have ih := evF_ok (T := T) hE (fc := fc) n
    unfold evF at h
    split at h
    · rename_i h1
      cases h
      obtain ⟨k1, k2, k3⟩ := hE _ _ _ h1
      exact pure_any k1 k2 k3 _
    · split at h
      · cases h
      · rename_i fn hf
        split at h
        · cases h
        · rename_i c hb
          split at h
          · rename_i hn
            split at h
            · rename_i s hs
              split at h
              · rename_i l hl
                obtain ⟨k1, k2, k3⟩ := finE_ok h
                refine fun_intro hf hn hb (rs := fn.results.toList) (by simp) _ rfl k3 fun _ => ?_
                refine (evC_ok (callE_ok ih) (pureE_ok ih) _ _ _ _ _ hs).1.mono fun e2 s2 he => ?_
                obtain ⟨rfl, rfl⟩ := he
                exact resE_ok _ _ hl _ ⟨k1, k2⟩
              · cases h
            · rename_i s hs
              split at h
              · rename_i l hl
                obtain ⟨k1, k2, k3⟩ := finE_ok h
                refine fun_intro hf hn hb (rs := fn.results.toList) (by simp) _ rfl k3 fun _ => ?_
                refine (evC_ok (callE_ok ih) (pureE_ok ih) _ _ _ _ _ hs).1.mono fun e2 s2 he => ?_
                obtain ⟨rfl, rfl⟩ := he
                exact resE_ok _ _ hl _ ⟨k1, k2⟩
              · cases h
            · cases h
          · cases h
/-- what the evaluator says holds -/
theorem pure_ev {T : Nat → Wd} {E : Pu} (hE : ExOk P E) (fc n : Nat) {f : Nat} {args : List AV} {r : AV} (h : evF P T E fc n f args nom = some (r, nom)) : Pure P f args r := evF_ok hE n _ _ _ _ _ h
theorem fun_ev {T : Nat → Wd} {E : Pu} (hE : ExOk P E) (fc n : Nat) {f : Nat} {args : List AV} {r : AV} {m m' : Mem} (h : evF P T E fc n f args m = some (r, m')) : PFun P f args m r m' := evF_ok hE n _ _ _ _ _ h
end
def lkN (d : Nat) : List (Nat × Nat) → Nat
  | [] => 0
  | (a, b) :: r => if Nat.beq a d = true then b else lkN d r
def lkD (d : Nat) : List (Nat × (List (Nat × Nat) × List Nat)) → List (Nat × Nat) × List Nat
  | [] => ([], [])
  | (a, b) :: r => if Nat.beq a d = true then b else lkD d r
def lkW (d : Nat) : List (Nat × List (Nat × Nat) × List (Nat × (List (Nat × Nat) × List Nat))) → Wd
  | [] => ⟨fun _ => 0, fun _ => ([], [])⟩
  | (a, b, c) :: r => if Nat.beq a d = true then ⟨fun x => lkN x b, fun x => lkD x c⟩ else lkW d r
end PM
end Go.Proofs.YthaekefdadccaaaDoor
