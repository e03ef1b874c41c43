/- The library's bytes functions, by their contracts. -/
import Derived.Test.YtmojbamloanleaaKit
import Derived.Test.YtmojbamloanleaaRows
import Derived.Lib.Bytealg
set_option linter.unusedVariables false
set_option linter.unusedSimpArgs false
namespace Go.Proofs.Ytmojbamloanleaa
open Go.RowKit
/-- the place of the first c, or -1 -/
def idxI : List Int → Int → Int
  | [], _ => -1
  | x :: l, c => if x = c then 0 else if idxI l c = -1 then -1 else idxI l c + 1
theorem ofNat8_inj {x y : Int} (hx : 0 ≤ x ∧ x ≤ 255) (hy : 0 ≤ y ∧ y ≤ 255) : UInt8.ofNat x.toNat = UInt8.ofNat y.toNat ↔ x = y := by
  rw [← UInt8.toNat_inj]
  have h1 := toNat_ofNat8 hx
  have h2 := toNat_ofNat8 hy
  omega
theorem idx_map : ∀ {l : List Int} {c : Int}, Rng l → (0 ≤ c ∧ c ≤ 255) → Lib.indexByte (l.map fun n => UInt8.ofNat n.toNat) (UInt8.ofNat c.toNat) = idxI l c
  | [], _, _, _ => rfl
  | x :: l, c, h, hc => by
    have ih := idx_map (l := l) (c := c) (fun z hz => h z (List.mem_cons_of_mem _ hz)) hc
    have e := ofNat8_inj (h x (by simp)) hc
    simp only [List.map_cons, Lib.indexByte, idxI, ih, beq_iff_eq, e]
theorem idxI_rng : ∀ (l : List Int) (c : Int), -1 ≤ idxI l c ∧ idxI l c < l.length
  | [], _ => by simp [idxI]
  | x :: l, c => by
    have ih := idxI_rng l c
    simp only [idxI, List.length_cons]
    split
    · omega
    · split <;> omega
section
variable {P : Program} {w : World}
theorem IsB.run_index {v : Value} {l : List Int} {c : Int} (h : IsB w v l) (hc : 0 ≤ c ∧ c ≤ 255) :
    (Extern.BytealgIndexByte.indexByte #[v, .int .u8 c]).run P w = .ok (.int .i64 (idxI l c)) w := by
  have hs := Lib.run_indexByteString (P := P) (strOfNums l) c w
  have e : (Extern.BytealgIndexByte.indexByte #[v, .int .u8 c]).run P w = (Extern.BytealgIndexByte.indexByte #[.string (strOfNums l), .int .u8 c]).run P w := by
    have hb := h.run_bytesOf (P := P)
    have hb2 : (Extern.Bytes.bytesOf (.string (strOfNums l))).run P w = .ok (strOfNums l) w := rfl
    change Sem.run P (do
      let b ← Extern.Bytes.bytesOf v
      let c ← Extern.Bytes.asByte (.int .u8 c)
      match (List.range b.size).find? fun i => b[i]! == c with
      | some i => pure (goInt i)
      | none => pure (goInt (-1))) w = Sem.run P (do
      let b ← Extern.Bytes.bytesOf (.string (strOfNums l))
      let c ← Extern.Bytes.asByte (.int .u8 c)
      match (List.range b.size).find? fun i => b[i]! == c with
      | some i => pure (goInt i)
      | none => pure (goInt (-1))) w
    rw [Sem.run_bind, Sem.run_bind, hb, hb2]
  rw [e, hs, strOfNums_data]
  have := idx_map h.rng hc
  rw [← this]
theorem IsB.run_compare {v u : Value} {l m : List Int} (h : IsB w v l) (k : IsB w u m) :
    (Extern.BytealgCompare.compare #[v, u]).run P w = .ok (.int .i64 (Lib.compareBytes (strOfNums l).data.toList (strOfNums m).data.toList)) w := by
  rw [← Lib.run_compareString (P := P)]
  obtain ⟨K, hK⟩ : ∃ K : ByteArray → ByteArray → Sem Value, ∀ v u, Extern.BytealgCompare.compare #[v, u] = (Extern.Bytes.bytesOf v >>= fun a => Extern.Bytes.bytesOf u >>= fun b => K a b) := ⟨_, fun _ _ => rfl⟩
  have h1 : (Extern.Bytes.bytesOf (.string (strOfNums l))).run P w = .ok (strOfNums l) w := rfl
  have h2 : (Extern.Bytes.bytesOf (.string (strOfNums m))).run P w = .ok (strOfNums m) w := rfl
  rw [hK, hK, Sem.run_bind, Sem.run_bind, h.run_bytesOf, h1]
  simp only [Result.andThen]
  rw [Sem.run_bind, Sem.run_bind, k.run_bytesOf, h2]
end
/-- the order of two lists of bytes -/
def cmpB : List Int → List Int → Int
  | [], [] => 0
  | [], _ :: _ => -1
  | _ :: _, [] => 1
  | a :: x, b :: y => if a < b then -1 else if b < a then 1 else cmpB x y
theorem cmpB_map : ∀ {l m : List Int}, Rng l → Rng m → Lib.compareBytes (l.map fun n => UInt8.ofNat n.toNat) (m.map fun n => UInt8.ofNat n.toNat) = cmpB l m
  | [], [], _, _ => rfl
  | _ :: _, [], _, _ => rfl
  | [], _ :: _, _, _ => rfl
  | x :: l, y :: m, hl, hm => by
    have hx := hl x (by simp)
    have hy := hm y (by simp)
    have ih := cmpB_map (l := l) (m := m) (fun z hz => hl z (List.mem_cons_of_mem _ hz)) (fun z hz => hm z (List.mem_cons_of_mem _ hz))
    have h1 := toNat_ofNat8 hx
    have h2 := toNat_ofNat8 hy
    have e1 : (UInt8.ofNat x.toNat < UInt8.ofNat y.toNat) ↔ x < y := by rw [UInt8.lt_iff_toNat_lt]; omega
    have e2 : (UInt8.ofNat y.toNat < UInt8.ofNat x.toNat) ↔ y < x := by rw [UInt8.lt_iff_toNat_lt]; omega
    simp only [List.map_cons, Lib.compareBytes, cmpB, ih, e1, e2]
theorem cmpB_rng : ∀ (l m : List Int), -1 ≤ cmpB l m ∧ cmpB l m ≤ 1
  | [], [] => by simp [cmpB]
  | [], _ :: _ => by simp [cmpB]
  | _ :: _, [] => by simp [cmpB]
  | a :: x, b :: y => by
    have ih := cmpB_rng x y
    simp only [cmpB]
    split
    · omega
    · split <;> omega
theorem cmpB_swap : ∀ (l m : List Int), cmpB m l = - cmpB l m
  | [], [] => by simp [cmpB]
  | [], _ :: _ => by simp [cmpB]
  | _ :: _, [] => by simp [cmpB]
  | a :: x, b :: y => by
    have ih := cmpB_swap x y
    simp only [cmpB]
    rcases Int.lt_trichotomy a b with h | h | h
    · rw [if_neg (by omega), if_pos h, if_pos h]; rfl
    · subst h; simp [ih]
    · rw [if_pos h, if_neg (by omega), if_pos h]
set_option maxRecDepth 100000 in
set_option maxHeartbeats 400000 in
theorem clip_any (ao : Option Addr) (n cap : Nat) (w : World) (hn : n ≤ cap) (hc : cap ≤ 9223372036854775807) :
    Calls Try.prog 38 #[.slice ao n cap] w fun e w' => e = .returned (.slice ao n n) ∧ w = w' := by
  go_enter Try.func38, Try.ntmps38
  go_wp2_with fail
  go_ret
  exact ⟨rfl, rfl⟩
set_option maxRecDepth 100000 in
set_option maxHeartbeats 400000 in
theorem bcompare_any (v u : Value) (l m : List Int) (w : World) (h : IsB w v l) (k : IsB w u m) :
    Calls Try.prog 79 #[v, u] w fun e w' => e = .returned (.int .i64 (cmpB l m)) ∧ w = w' := by
  have hr := h.run_compare (P := Try.prog) k
  rw [strOfNums_data, strOfNums_data, cmpB_map h.rng k.rng] at hr
  have HR := Lib.hid hr
  clear hr h k
  go_enter Try.func79, Try.ntmps79
  go_wp2_with fail
  rw [run_callFunc_extern Try.func97 (by kernel_rfl) (by kernel_rfl) (by kernel_rfl) (e := Extern.BytealgCompare.compare) (by kernel_rfl), HR.out]
  simp only [Result.andThen]
  rw [Oper.upon_value]
  go_wp2_with fail
  go_ret
  exact ⟨rfl, rfl⟩
theorem infoU8 : (Try.prog.info? 5).map (fun i => (i.zero, i.size, i.bytes)) = some (some (.int .u8 0), 1, 1) := by kernel_rfl
def ClonePost (l : List Int) (w : World) (e : Ending) (w' : World) : Prop := ∃ v, e = .returned v ∧ OwnS w' w.heap.size 5 v l ∧ Below w.heap.size w w'
set_option maxRecDepth 100000 in
set_option maxHeartbeats 400000 in
theorem clone_any (ao : Option Addr) (cap : Nat) (l : List Int) (w : World) (h : IsB w (.slice ao l.length cap) l) (hl : l.length ≤ 140737488355328) :
    Calls Try.prog 39 #[.slice ao l.length cap] w (ClonePost l w) := by
  have HB := Lib.hid h
  obtain ⟨i0, hi0, hz0, hz1, hz2⟩ := info_parts infoU8
  have HI := Lib.hid hi0; have HZ0 := Lib.hid hz0; have HZ1 := Lib.hid hz1; have HZ2 := Lib.hid hz2
  clear hi0 hz0 hz1 hz2
  have hq := fun (w : World) (a : Option Addr) (n c : Nat) => Lib.run_eql_slice_nil (P := Try.prog) w 25 5 a n c 0 0 Try.underlying25
  rcases ao with _ | a
  · obtain ⟨_, ao', cap', h1, _, _, h4, _⟩ := h
    simp only [Value.slice.injEq] at h1
    obtain ⟨rfl, _, rfl⟩ := h1
    obtain ⟨rfl, rfl⟩ := h4 rfl
    go_enter Try.func39, Try.ntmps39
    go_wp2_with fail
    go_ret
    exact ⟨_, rfl, ⟨Rng.nil, .inl ⟨rfl, rfl⟩⟩, Below.refl _ _⟩
  · clear h
    go_enter Try.func39, Try.ntmps39
    go_wp2_with (at_builtin; refine wpList_append_bytes (base := w.heap.size) (.tmp 5) (.tmp 6) _ rfl rfl i0 _ Try.underlying25 HI.out HZ0.out HZ1.out HZ2.out rfl _ [] l rfl rfl (World.ownsRow_lit w #[] 0 (Nat.le_refl _) (by simp [maxLen]) (by simp)) (HB.out.alloc _) (by omega) (by simp) ?_; intro v1 w1 hown1 hb1; simp only [Nat.zero_add, List.nil_append] at hown1; have HO1 := Lib.hid hown1; have HB1 := Lib.hid hb1; clear hown1 hb1)
    go_ret
    exact ⟨_, rfl, OwnS.of_own HO1.out HB.out.rng, ((Below.refl _ w).alloc (Nat.le_refl _) _).trans HB1.out⟩
end Go.Proofs.Ytmojbamloanleaa
