/- bytes.ReplaceAll of each zero by a zero and a 255. -/
import Derived.Test.YtlolgiphppbcmaaDoorBytesFn
import Derived.Test.YtlolgiphppbcmaaDoorCopy
import Derived.Test.YtlolgiphppbcmaaDoorCodecX
namespace Go.Proofs.YtlolgiphppbcmaaDoor
open Go.RowKit
theorem count_map : ∀ {l : List Int} {c : Int}, Rng l → (0 ≤ c ∧ c ≤ 255) → (l.map fun n => UInt8.ofNat n.toNat).count (UInt8.ofNat c.toNat) = l.count c
  | [], _, _, _ => rfl
  | x :: l, c, h, hc => by
    have ih := count_map (l := l) (c := c) (fun z hz => h z (List.mem_cons_of_mem _ hz)) hc
    have e := ofNat8_inj (h x (by simp)) hc
    rw [List.map_cons, List.count_cons, List.count_cons, ih]
    simp only [beq_iff_eq, e]
theorem IsB.run_count {P : Program} {w : World} {v : Value} {l : List Int} {c : Int} (h : IsB w v l) (hc : 0 ≤ c ∧ c ≤ 255) :
    (Extern.BytealgCount.count #[v, .int .u8 c]).run P w = .ok (.int .i64 (l.count c : Nat)) w := by
  have hs := Lib.run_countString (P := P) (strOfNums l) c w
  obtain ⟨K, hK⟩ : ∃ K : ByteArray → Sem Value, ∀ v, Extern.BytealgCount.count #[v, .int .u8 c] = (Extern.Bytes.bytesOf v >>= fun a => K a) := ⟨_, fun _ => rfl⟩
  have h1 : (Extern.Bytes.bytesOf (.string (strOfNums l))).run P w = .ok (strOfNums l) w := rfl
  rw [hK, Sem.run_bind, h1] at hs
  rw [hK, Sem.run_bind, h.run_bytesOf, hs, strOfNums_data]
  have := count_map h.rng hc
  rw [← this]
  rfl
/-- each zero becomes a zero and a 255 -/
def repl : List Int → List Int
  | [] => []
  | x :: l => if x = 0 then 0 :: 255 :: repl l else x :: repl l
theorem repl_append : ∀ (a b : List Int), repl (a ++ b) = repl a ++ repl b
  | [], b => rfl
  | x :: a, b => by
    have ih := repl_append a b
    simp only [List.cons_append, repl, ih]
    split <;> simp
theorem repl_len : ∀ l : List Int, (repl l).length = l.length + l.count 0
  | [] => rfl
  | x :: l => by
    have ih := repl_len l
    rw [repl, List.count_cons]
    by_cases h : x = 0
    · subst h; simp [ih]; omega
    · simp [h, ih]; omega
theorem repl_nz : ∀ {l : List Int}, (∀ x ∈ l, x ≠ 0) → repl l = l
  | [], _ => rfl
  | x :: l, h => by
    rw [repl, if_neg (h x (by simp)), repl_nz (fun y hy => h y (by simp [hy]))]
theorem repl_rng : ∀ {l : List Int}, Rng l → Rng (repl l)
  | [], _ => Rng.nil
  | x :: l, h => by
    have ih := repl_rng (l := l) (fun y hy => h y (by simp [hy]))
    rw [repl]
    split
    · exact Rng.cons (by decide) (Rng.cons (by decide) ih)
    · exact Rng.cons (h x (by simp)) ih
theorem count_nz {l : List Int} (h : ∀ x ∈ l, x ≠ 0) : l.count 0 = 0 := List.count_eq_zero.2 fun hm => h 0 hm rfl
set_option maxHeartbeats 400000 in
theorem count_any (v u : Value) (l : List Int) (w : World) (h : IsB w v l) (k : IsB w u [0]) :
    Calls Tryd.prog 39 #[v, u] w fun e w' => e = .returned (.int .i64 (l.count 0 : Nat)) ∧ w = w' := by
  have HR := Lib.hid (h.run_count (P := Tryd.prog) (c := 0) (by decide))
  obtain ⟨uo, ucap, rfl, hnc, -, -⟩ := k.form
  obtain ⟨b, o, x, rfl, hbb, hx, hc, -, -⟩ := k.at_ (k := 0) (by simp)
  have hx0 : x = 0 := by have := hx.out; simpa using this.symm
  subst hx0
  simp only [Nat.add_zero] at hc
  clear h k hx
  go_enter Tryd.func39, Tryd.ntmps39
  go_wp2_with fail
  rw [run_callFunc_extern Tryd.func43 (by kernel_rfl) (by kernel_rfl) (by kernel_rfl) (e := Extern.BytealgCount.count) (by kernel_rfl), HR.out]
  simp only [Result.andThen]
  rw [Oper.upon_value]
  go_wp2_with fail
  go_ret
  exact ⟨rfl, rfl⟩
set_option maxRecDepth 100000 in
set_option maxHeartbeats 1000000 in
theorem indexZero_any (v u : Value) (l : List Int) (w : World) (h : IsB w v l) (k : IsB w u [0]) :
    Calls Tryd.prog 40 #[v, u] w fun e w' => e = .returned (.int .i64 (idxI l 0)) ∧ w = w' := by
  have HC := Lib.hid (index_any v l 0 w h (by decide))
  obtain ⟨uo, ucap, rfl, hnc, -, -⟩ := k.form
  obtain ⟨b, o, x, rfl, hbb, hx, hc, -, -⟩ := k.at_ (k := 0) (by simp)
  have hx0 : x = 0 := by have := hx.out; simpa using this.symm
  subst hx0
  simp only [Nat.add_zero] at hc
  clear h k hx
  go_enter Tryd.func40, Tryd.ntmps40
  go_wp2_with fail
  refine HC.out.mono ?_
  rintro e w1 ⟨rfl, rfl⟩
  go_wp2_with fail
  go_ret
  exact ⟨rfl, rfl⟩
end Go.Proofs.YtlolgiphppbcmaaDoor
