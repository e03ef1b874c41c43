/- sort.Search with any predicate (walk). sstable: find, Count, Blocks, First, Last (walk). sstable: First, Last, look (walk). sstable: Get (walk). sstable: Get (walk). -/
import Derived.Test.YtmojbamloanleaaSsM3
import Derived.Test.YtmojbamloanleaaSs25
import Derived.Shelf.Abstract
import Derived.Deep.RegionHeld3
import Derived.Test.YtmojbamloanleaaEq
import Derived.Test.YtmojbamloanleaaBloom2
set_option linter.unusedVariables false
set_option linter.unusedSimpArgs false
namespace Go.Proofs.Ytmojbamloanleaa
open Go.RowKit
namespace Ss
open Mt Codec
/-- what sort.Search answers -/
def srchF (p : Nat → Bool) : Nat → Nat → Nat → Nat
  | 0, lo, _ => lo
  | f + 1, lo, hi => if lo < hi then (if p ((lo + hi) / 2) then srchF p f lo ((lo + hi) / 2) else srchF p f ((lo + hi) / 2 + 1) hi) else lo
theorem srchF_le (p : Nat → Bool) : ∀ (f lo hi : Nat), lo ≤ hi → lo ≤ srchF p f lo hi ∧ srchF p f lo hi ≤ hi
  | 0, lo, hi, h => ⟨Nat.le_refl _, h⟩
  | f + 1, lo, hi, h => by
    unfold srchF
    by_cases h1 : lo < hi
    · rw [if_pos h1]
      split
      · have := srchF_le p f lo ((lo + hi) / 2) (by omega); omega
      · have := srchF_le p f ((lo + hi) / 2 + 1) hi (by omega); omega
    · rw [if_neg h1]; omega
/-- where the predicate turns once, it answers where -/
theorem srchF_least (p : Nat → Bool) : ∀ (f lo hi : Nat), lo ≤ hi → hi - lo ≤ f → (∀ i j, lo ≤ i → i ≤ j → j < hi → p i = true → p j = true) →
    (∀ i, lo ≤ i → i < srchF p f lo hi → p i = false) ∧ (∀ i, srchF p f lo hi ≤ i → i < hi → p i = true)
  | 0, lo, hi, h, hf, _ => by
    unfold srchF
    exact ⟨fun i h1 h2 => by omega, fun i h1 h2 => by omega⟩
  | f + 1, lo, hi, h, hf, hm => by
    unfold srchF
    by_cases h1 : lo < hi
    · rw [if_pos h1]
      by_cases h2 : p ((lo + hi) / 2) = true
      · rw [if_pos h2]
        obtain ⟨q1, q2⟩ := srchF_least p f lo ((lo + hi) / 2) (by omega) (by omega) (fun i j a b c d => hm i j a b (by omega) d)
        refine ⟨q1, fun i a b => ?_⟩
        by_cases h3 : i < (lo + hi) / 2
        · exact q2 i a h3
        · exact hm _ i (by omega) (by omega) b h2
      · rw [if_neg h2]
        obtain ⟨q1, q2⟩ := srchF_least p f ((lo + hi) / 2 + 1) hi (by omega) (by omega) (fun i j a b c d => hm i j (by omega) b c d)
        refine ⟨fun i a b => ?_, q2⟩
        by_cases h3 : (lo + hi) / 2 + 1 ≤ i
        · exact q1 i h3 b
        · cases h4 : p i
          · rfl
          · exact absurd (hm i _ a (by omega) (by omega) h4) h2
    · rw [if_neg h1]
      exact ⟨fun i a b => by omega, fun i a b => by omega⟩
set_option maxRecDepth 100000 in
set_option maxHeartbeats 4000000 in
theorem search_any (g : Nat) (cb : Array Value) (p : Nat → Bool) (n : Nat) (w : World) (hn : n ≤ 4611686018427387904)
    (eg : ∀ (args : Array Value) (w : World), Sem.run Try.prog (callFunc g args) w = .ok (.enter g args) w)
    (hp : ∀ w' (i : Nat), i < n → Below w.heap.size w w' → Calls Try.prog g (#[.int .i64 i] ++ cb) w' (Ret (.bool (p i)) w')) :
    Calls Try.prog 82 #[.int .i64 n, .func (.func g) #[] cb] w (Ret (.int .i64 (srchF p n 0 n)) w) := by
  have HP := Lib.hid hp
  clear hp
  go_enter Try.func82, Try.ntmps82
  go_wp2_with fail
  go_loopw [5, 6] (fun lv hv wr => ∃ lo hi f : Nat, lv = .int .i64 lo ∧ hv = .int .i64 hi ∧ lo ≤ hi ∧ hi ≤ n ∧ hi - lo ≤ f ∧ Hid (srchF p n 0 n = srchF p f lo hi) ∧ Hid (Below w.heap.size w wr)) (fun lv hv _ => (intOf hv).toNat - (intOf lv).toNat)
  case atStart => exact ⟨0, n, n, rfl, rfl, by omega, by omega, by omega, Lib.hid rfl, Below.refl _ _⟩
  case round =>
    obtain ⟨lo, hi, f, rfl, rfl, hlh, hhn, hf, hs, hb⟩ := hrel
    by_cases hlt : lo < hi
    · have p0 : (lo : Int) < hi := by omega
      have p1 := IntWalk.i64_in ((lo : Int) + hi) (by omega)
      have p2 := IntWalk.u64_in ((lo : Int) + hi) (by omega)
      obtain ⟨m, hm⟩ : ∃ m : Nat, (lo + hi) / 2 = m := ⟨_, rfl⟩
      have p3 : ((lo : Int) + hi) / 2 = (m : Int) := by omega
      have p4 := IntWalk.i64_in (m : Int) (by omega)
      have p5 := IntWalk.i64_in ((m : Int) + 1) (by omega)
      obtain ⟨f, rfl⟩ : ∃ f', f = f' + 1 := ⟨f - 1, by omega⟩
      have HS : Hid (srchF p n 0 n = if p m then srchF p f lo m else srchF p f (m + 1) hi) := Lib.hid (by
        rw [hs.out]
        conv => lhs; unfold srchF
        rw [if_pos hlt, hm])
      have HC := Lib.hid (HP.out wr m (by omega) hb.out)
      have HM : Hid (lo ≤ m ∧ m < hi) := Lib.hid (by omega)
      clear hm
      cases hpm : p m
      · rw [hpm] at HC HS
        simp only [Bool.false_eq_true, if_false] at HS
        go_wp2_with fail
        refine HC.out.mono ?_
        rintro e w1 ⟨rfl, hb1⟩
        have G1 := Lib.hid (bel_call hb.out hb1)
        clear hb1
        go_wp2_with fail
        go_roundw
        case rel => exact ⟨m + 1, hi, f, by go_num, rfl, by have := HM.out; omega, hhn, by have := HM.out; omega, HS, G1⟩
        case measure => have := HM.out; simp [intOf] <;> omega
      · rw [hpm] at HC HS
        simp only [if_true] at HS
        go_wp2_with fail
        refine HC.out.mono ?_
        rintro e w1 ⟨rfl, hb1⟩
        have G1 := Lib.hid (bel_call hb.out hb1)
        clear hb1
        go_wp2_with fail
        go_roundw
        case rel => exact ⟨lo, m, f, rfl, rfl, HM.out.1, by have := HM.out; omega, by have := HM.out; omega, HS, G1⟩
        case measure => have := HM.out; simp [intOf] <;> omega
    · have p0 : ¬ (lo : Int) < hi := by omega
      have HE : Hid (srchF p n 0 n = lo) := Lib.hid (by
        rw [hs.out]
        cases f with
        | zero => rfl
        | succ f => unfold srchF; rw [if_neg hlt])
      go_wp2_with fail
      go_ret
      exact ⟨by rw [HE.out]; rfl, hb.out⟩
end Ss
end Go.Proofs.Ytmojbamloanleaa
namespace Go.Proofs.Ytmojbamloanleaa
open Go.RowKit
namespace Ss
open Mt Codec
/-- the block's last key is not below the key -/
def geF (bs : List Blk) (key : List Int) (i : Nat) : Bool := match bs[i]? with
  | some p => decide (0 ≤ cmpB (keyZ p.2.2) key)
  | none => false
/-- the first block whose last key is not below one -/
def findF (bs : List Blk) (key : List Int) : Nat := srchF (geF bs key) bs.length 0 bs.length
section
variable {base tb : Nat} {W W' : World} {bv blv fv av v : Value} {b fil : List Int} {cnt rd : Int} {rows : List BV} {all : List En}
/-- the cells of block i -/
theorem OpI.row (h : OpI base W tb bv blv fv av cnt rd b fil rows all) {i : Nat} {r : BV} (hr : rows[i]? = some r) : ∃ lg lc, blv = .slice (some ⟨lg, 0, none⟩) rows.length lc ∧ lg < W.heap.size ∧
    W.cell? ⟨lg, i * 5, none⟩ = some (.int .i64 r.1.1) ∧ W.cell? ⟨lg, i * 5 + 1, none⟩ = some (.int .i64 r.1.2.1) ∧ W.cell? ⟨lg, i * 5 + 3, none⟩ = some r.2.1 ∧ W.cell? ⟨lg, i * 5 + 4, none⟩ = some r.2.2 ∧ GoodB W base r := by
  have ho := h.ol
  obtain ⟨lo, lc, hlv, -, -, -, -⟩ := own_form ho
  rw [hlv] at ho
  have hc : ∀ j u, (c5 r)[j]? = some u → (rows.flatMap c5)[i * 5 + j]? = some u := fun j u hu => by
    rw [flat_get c5_len rows i j r hr (by have := (List.getElem?_eq_some_iff.1 hu).1; rwa [c5_len] at this)]; exact hu
  obtain ⟨g, hg, -, hgl, c0⟩ := own_cell ho (hc 0 _ rfl)
  subst hg
  exact ⟨g, lc, hlv, hgl, c0, own_cell' ho (hc 1 _ rfl), own_cell' ho (hc 3 _ rfl), own_cell' ho (hc 4 _ rfl), h.gb r (List.mem_of_getElem? hr)⟩
end
set_option maxRecDepth 100000 in
set_option maxHeartbeats 4000000 in
theorem findC_any (base tb : Nat) (bv blv fv av : Value) (b fil : List Int) (cnt rd : Int) (rows : List BV) (all : List En) (kv : Value) (key : List Int) (tc kc i : Nat) (w : World) (h : OpI base w tb bv blv fv av cnt rd b fil rows all) (hi : i < rows.length) (hl : rows.length ≤ 4194304) (hk : IsB w kv key)
    (ht : w.cell? ⟨tc, 0, none⟩ = some (.pointer (some ⟨tb, 0, none⟩))) (hkc : w.cell? ⟨kc, 0, none⟩ = some kv) :
    Calls Try.prog 83 #[.int .i64 i, .pointer (some ⟨tc, 0, none⟩), .pointer (some ⟨kc, 0, none⟩)] w (Ret (.bool (geF (rows.map (·.1)) key i)) w) := by
  obtain ⟨r, hr⟩ : ∃ r, rows[i]? = some r := ⟨rows[i], List.getElem?_eq_getElem hi⟩
  obtain ⟨lg, lc, rfl, hgl, -, -, -, c4, -, hz⟩ := h.row hr
  obtain ⟨zo, zc, hzv, -, -, -, -⟩ := hz.form
  rw [hzv] at c4 hz
  have HZ := Lib.hid hz.isB
  obtain ⟨ko, kcap, rfl, -, -, -⟩ := hk.form
  have HK := Lib.hid hk
  have HG : Hid (geF (rows.map (·.1)) key i = decide (0 ≤ cmpB (keyZ r.1.2.2) key)) := Lib.hid (by unfold geF; rw [List.getElem?_map, hr]; rfl)
  have c1 := h.c1
  have p0 : (i : Int) < rows.length := by omega
  have p1 : (0 : Int) ≤ (i : Int) := by omega
  have p2 := IntWalk.i64_in (i : Int) (by omega)
  have HC := Lib.hid (ccompare_any _ _ _ key w.drew (HZ.out.drew) (HK.out.drew))
  clear hr hz hk hgl hzv h
  go_enter Try.func83, Try.ntmps83
  go_wp2_with fail
  go_region_held3 (fun w' => w'.cell? ⟨tc, 0, none⟩ = some (.pointer (some ⟨tb, 0, none⟩)) ∧ w'.cell? ⟨kc, 0, none⟩ = some (.slice ko key.length kcap) ∧ w'.cell? ⟨tb, 1, none⟩ = some (.slice (some ⟨lg, 0, none⟩) rows.length lc) ∧ w'.cell? ⟨lg, i * 5 + 4, none⟩ = some (.slice zo (keyZ r.1.2.2).length zc)) (first | exact ⟨by assumption, by assumption, by assumption, by assumption⟩ | go_keep) ((go_at_call 48; refine HC.out.mono ?_; rintro e w3 ⟨rfl, rfl⟩))
  go_wp2_with fail
  go_ret
  exact ⟨by rw [HG.out]; first | rfl | simp, (Below.refl _ w).drew⟩
set_option maxRecDepth 100000 in
set_option maxHeartbeats 4000000 in
theorem find_any (base tb : Nat) (bv blv fv av : Value) (b fil : List Int) (cnt rd : Int) (rows : List BV) (all : List En) (kv : Value) (key : List Int) (w : World) (h : OpI base w tb bv blv fv av cnt rd b fil rows all) (hl : rows.length ≤ 4194304) (hk : IsB w kv key) :
    Calls Try.prog 50 #[.pointer (some ⟨tb, 0, none⟩), kv] w (Ret (.int .i64 (findF (rows.map (·.1)) key)) w) := by
  obtain ⟨ko, kcap, rfl, -, -, -⟩ := hk.form
  have hmf : ∀ (fn : Fn) (first cap : Array Value) (w : World), (Instr.makeFunc fn first cap).run Try.prog w = .ok (.func fn first cap) w := fun _ _ _ _ => rfl
  have GA : Hid (Below w.heap.size w ((w.alloc (.cells #[.pointer (some ⟨tb, 0, none⟩)] 31)).alloc (.cells #[.slice ko key.length kcap] 25))) := Lib.hid (bel_alloc (bel_alloc (Below.refl _ w) _) _)
  have hct : ((w.alloc (.cells #[.pointer (some ⟨tb, 0, none⟩)] 31)).alloc (.cells #[.slice ko key.length kcap] 25)).cell? ⟨w.heap.size, 0, none⟩ = some (.pointer (some ⟨tb, 0, none⟩)) := by go_simp
  have hck : ((w.alloc (.cells #[.pointer (some ⟨tb, 0, none⟩)] 31)).alloc (.cells #[.slice ko key.length kcap] 25)).cell? ⟨w.heap.size + 1, 0, none⟩ = some (.slice ko key.length kcap) := by go_simp
  obtain ⟨lo, lc, hlv, -, -, -, -⟩ := own_form h.ol
  have c1 : ((w.alloc (.cells #[.pointer (some ⟨tb, 0, none⟩)] 31)).alloc (.cells #[.slice ko key.length kcap] 25)).cell? ⟨tb, 1, none⟩ = some (.slice lo rows.length lc) := (GA.out.cell (p := ⟨tb, 1, none⟩) h.lt).trans (by rw [h.c1, hlv])
  have HX := Lib.hid (search_any 83 #[.pointer (some ⟨w.heap.size, 0, none⟩), .pointer (some ⟨w.heap.size + 1, 0, none⟩)] (geF (rows.map (·.1)) key) rows.length ((w.alloc (.cells #[.pointer (some ⟨tb, 0, none⟩)] 31)).alloc (.cells #[.slice ko key.length kcap] 25)) (by omega)
    (enters_of Try.func83 (by kernel_rfl) rfl)
    (fun w' i hi hb => findC_any base tb bv blv fv av b fil cnt rd rows all _ key w.heap.size (w.heap.size + 1) i w' ((h.below GA.out).below hb) hi hl ((hk.below GA.out).below hb) ((hb.cell (p := ⟨w.heap.size, 0, none⟩) (by simp <;> omega)).trans hct) ((hb.cell (p := ⟨w.heap.size + 1, 0, none⟩) (by simp <;> omega)).trans hck)))
  have HF : Hid (findF (rows.map (·.1)) key = srchF (geF (rows.map (·.1)) key) rows.length 0 rows.length) := Lib.hid (by unfold findF; rw [List.length_map])
  generalize srchF (geF (rows.map (·.1)) key) rows.length 0 rows.length = ix at HX HF
  clear hct hck h hk
  go_enter Try.func50, Try.ntmps50
  go_wp2_with fail
  refine HX.out.mono ?_
  rintro e w1 ⟨rfl, hb⟩
  have GW := Lib.hid (bel_call GA.out hb)
  clear hb c1
  go_wp2_with fail
  go_ret
  exact ⟨by rw [HF.out]; rfl, GW.out⟩
set_option maxHeartbeats 4000000 in
theorem count_any (base tb : Nat) (bv blv fv av : Value) (b fil : List Int) (cnt rd : Int) (rows : List BV) (all : List En) (w : World) (h : OpI base w tb bv blv fv av cnt rd b fil rows all) :
    Calls Try.prog 16 #[.pointer (some ⟨tb, 0, none⟩)] w (Ret (.int .i64 cnt) w) := by
  have c3 : w.cell? ⟨tb, 3, none⟩ = some (.int .i64 cnt) := (cell_of_row _ _ 3 _ _ _ h.box).trans rfl
  clear h
  go_enter Try.func16, Try.ntmps16
  go_wp2_with fail
  go_ret
  exact ⟨rfl, Below.refl _ w⟩
set_option maxHeartbeats 4000000 in
theorem blocks_any (base tb : Nat) (bv blv fv av : Value) (b fil : List Int) (cnt rd : Int) (rows : List BV) (all : List En) (w : World) (h : OpI base w tb bv blv fv av cnt rd b fil rows all) :
    Calls Try.prog 17 #[.pointer (some ⟨tb, 0, none⟩)] w (Ret (.int .i64 rows.length) w) := by
  obtain ⟨lo, lc, hlv, -, -, -, -⟩ := own_form h.ol
  have c1 : w.cell? ⟨tb, 1, none⟩ = some (.slice lo rows.length lc) := by rw [h.c1, hlv]
  clear h
  go_enter Try.func17, Try.ntmps17
  go_wp2_with fail
  go_ret
  exact ⟨rfl, Below.refl _ w⟩
end Ss
end Go.Proofs.Ytmojbamloanleaa
namespace Go.Proofs.Ytmojbamloanleaa
open Go.RowKit
namespace Ss
open Mt Codec
/-- bytes of the call's own -/
def OwnBP (l : List Int) (w : World) (e : Ending) (w' : World) : Prop := ∃ v, e = .returned v ∧ OwnS w' w.heap.size 5 v l ∧ Below w.heap.size w w'
set_option maxRecDepth 100000 in
set_option maxHeartbeats 4000000 in
theorem first_any (base tb : Nat) (bv blv fv av : Value) (b fil : List Int) (cnt rd : Int) (rows : List BV) (all : List En) (r : BV) (w : World) (h : OpI base w tb bv blv fv av cnt rd b fil rows all) (hr : rows[0]? = some r) (hl : (keyA r.1.2.2).length ≤ 140737488355328) :
    Calls Try.prog 20 #[.pointer (some ⟨tb, 0, none⟩)] w (OwnBP (keyA r.1.2.2) w) := by
  obtain ⟨lg, lc, rfl, hgl, -, -, c3, -, hz, -⟩ := h.row hr
  rw [Nat.zero_mul, Nat.zero_add] at c3
  obtain ⟨zo, zc, hzv, -, -, -, -⟩ := hz.form
  rw [hzv] at c3 hz
  have c1 := h.c1
  have hrl := (List.getElem?_eq_some_iff.1 hr).1
  have p0 : (0 : Int) < rows.length := by omega
  have HC := Lib.hid (cloneB_any zo zc _ w hz.isB hl)
  unfold CloneP at HC
  clear hz hzv h hr hgl
  go_enter Try.func20, Try.ntmps20
  go_wp2_with fail
  refine HC.out.mono ?_
  rintro e w1 ⟨vao, vcap, rfl, f1, f2, o1, d1⟩
  have O1 := Lib.hid o1.clip
  have D1 := Lib.hid d1
  clear o1 d1 HC
  go_wp2_with (go_at_call 38; refine (clip_any _ _ _ _ f1 f2).mono ?_; rintro e w9 ⟨rfl, rfl⟩)
  go_ret
  exact ⟨_, rfl, O1.out, D1.out⟩
set_option maxRecDepth 100000 in
set_option maxHeartbeats 4000000 in
theorem last_any (base tb : Nat) (bv blv fv av : Value) (b fil : List Int) (cnt rd : Int) (rows : List BV) (all : List En) (r : BV) (m : Nat) (w : World) (h : OpI base w tb bv blv fv av cnt rd b fil rows all) (hm : rows.length = m + 1) (hml : m ≤ 4194304) (hr : rows[m]? = some r) (hl : (keyZ r.1.2.2).length ≤ 140737488355328) :
    Calls Try.prog 21 #[.pointer (some ⟨tb, 0, none⟩)] w (OwnBP (keyZ r.1.2.2) w) := by
  obtain ⟨lg, lc, rfl, hgl, -, -, -, c4, -, hz⟩ := h.row hr
  obtain ⟨zo, zc, hzv, -, -, -, -⟩ := hz.form
  rw [hzv] at c4 hz
  have c1 := h.c1
  rw [hm] at c1
  have p0 := IntWalk.i64_in ((m : Int) + 1 - 1) (by omega)
  have p1 : (m : Int) + 1 - 1 = (m : Int) := by omega
  have p2 : (0 : Int) ≤ (m : Int) := by omega
  have p3 : (m : Int) < (m : Int) + 1 := by omega
  have p4 := IntWalk.i64_in (m : Int) (by omega)
  have hlt := h.lt
  have HC := Lib.hid (cloneB_any zo zc _ w.drew hz.isB.drew hl)
  unfold CloneP at HC
  clear hz hzv h hr hm
  go_enter Try.func21, Try.ntmps21
  go_wp2_with fail
  go_region_held3 (fun w' => w'.cell? ⟨tb, 1, none⟩ = some (.slice (some ⟨lg, 0, none⟩) (m + 1) lc) ∧ w'.cell? ⟨lg, m * 5 + 4, none⟩ = some (.slice zo (keyZ r.1.2.2).length zc)) (first | exact ⟨by assumption, by assumption⟩ | go_keep) (first
    | (go_at_call 39; refine HC.out.mono ?_; rintro e w1 ⟨vao, vcap, rfl, f1, f2, o1, d1⟩; have O1 := Lib.hid o1.clip; have D1 : Hid (Below w.heap.size w w1) := Lib.hid ((Below.refl _ w).drew.trans d1); have e1 := (D1.out.cell (p := ⟨tb, 1, none⟩) hlt).trans c1; have e2 := (D1.out.cell (p := ⟨lg, m * 5 + 4, none⟩) hgl).trans c4; clear o1 d1)
    | (go_at_call 38; refine (clip_any _ _ _ _ f1 f2).mono ?_; rintro e w9 ⟨rfl, rfl⟩))
  all_goals (
    go_wp2_with fail
    go_ret
    exact ⟨_, rfl, O1.out, D1.out⟩)
theorem _root_.Go.Proofs.Ytmojbamloanleaa.Mt.OwnEs.mono' {w : World} {b1 b2 : Nat} {v : Value} {l : List En} (h : OwnEs w b1 v l) (hb : b2 ≤ b1) : OwnEs w b2 v l := by
  obtain ⟨rs, h1, h2, h3⟩ := h
  exact ⟨rs, h1, own_mono h2 hb, fun r hr => ⟨(h3 r hr).1.mono hb, (h3 r hr).2.1.mono hb, (h3 r hr).2.2⟩⟩
/-- a block that can be read again -/
def BlkOk (b : List Int) (p : Blk) : Prop := p.1 ≤ p.2.1 ∧ p.2.1 ≤ b.length ∧ framR ((b.drop p.1).take (p.2.1 - p.1)) = some p.2.2
def LookP (base tb : Nat) (bv blv fv av : Value) (b fil : List Int) (cnt rd : Int) (rows : List BV) (all : List En) (l : List En) (w : World) (e : Ending) (w' : World) : Prop :=
  ∃ v, e = .returned v ∧ OwnEs w' w.heap.size v l ∧ OpI base w' tb bv blv fv av cnt (rd + 1) b fil rows all ∧ Chg (fun b => b = tb) w w'
set_option maxRecDepth 100000 in
set_option maxHeartbeats 4000000 in
theorem look_any (base tb : Nat) (bv blv fv av : Value) (b fil : List Int) (cnt rd : Int) (rows : List BV) (all : List En) (r : BV) (i : Nat) (w : World) (h : OpI base w tb bv blv fv av cnt rd b fil rows all) (hr : rows[i]? = some r) (hk : BlkOk b r.1) (hl : rows.length ≤ 4194304) (hbl : b.length ≤ 4194304) (hb0 : 0 < b.length) (hrd : 0 ≤ rd ∧ rd ≤ 4611686018427387904) :
    Calls Try.prog 51 #[.pointer (some ⟨tb, 0, none⟩), .int .i64 i] w (LookP base tb bv blv fv av b fil cnt rd rows all r.1.2.2 w) := by
  obtain ⟨k1, k2, k3⟩ := hk
  obtain ⟨F, hF⟩ : ∃ F, r.1.1 = F := ⟨_, rfl⟩
  obtain ⟨T, hT⟩ : ∃ T, r.1.2.1 = T := ⟨_, rfl⟩
  rw [hF, hT] at k1 k3
  rw [hT] at k2
  obtain ⟨vg, vo, bx, hbv, -, -, -, -, -⟩ : ∃ (vg vo bx : Nat), bv = .slice (some ⟨vg, vo, none⟩) b.length bx ∧ b.length ≤ bx ∧ True ∧ True ∧ True ∧ True := by
    obtain ⟨a, c, e1, e2, -⟩ := h.ob.form
    subst e1
    obtain ⟨g', o', x, hao, -⟩ := h.ob.isB.at_ (k := 0) hb0
    subst hao
    exact ⟨g', o', c, rfl, e2, trivial, trivial, trivial, trivial⟩
  subst hbv
  have hbx : b.length ≤ bx := by
    obtain ⟨a, c, e1, e2, -⟩ := h.ob.form
    cases e1
    exact e2
  have HR := h.setB 4 (.int .i64 (rd + 1)) (fv' := fv) (cnt' := cnt) (rd' := rd + 1) (fil' := fil) rfl h.of
  have c4 : w.cell? ⟨tb, 4, none⟩ = some (.int .i64 rd) := (cell_of_row _ _ 4 _ _ _ h.box).trans rfl
  have z4 := h.fz 4
  have p0 := IntWalk.i64_in (rd + 1) (by omega)
  have HCH : Hid (Chg (fun b => b = tb) w (w.setCell ⟨tb, 4, none⟩ (.int .i64 (rd + 1)))) := Lib.hid ((Chg.refl (fun b => b = tb) w).set (p := ⟨tb, 4, none⟩) (fun _ => rfl) _)
  have H0 := Lib.hid h
  clear h
  obtain ⟨W, hW⟩ : ∃ W, w.setCell ⟨tb, 4, none⟩ (.int .i64 (rd + 1)) = W := ⟨_, rfl⟩
  rw [hW] at HR HCH
  have hsz : W.heap.size = w.heap.size := by rw [← hW]; simp
  have HSZ := Lib.hid hsz
  clear hsz
  obtain ⟨lg, lc, rfl, hgl, d0, d1, -, -, -⟩ := HR.row hr
  rw [hF] at d0
  rw [hT] at d1
  have c0 : W.cell? ⟨tb, 0, none⟩ = some (.slice (some ⟨vg, vo, none⟩) b.length bx) := (cell_of_row _ _ 0 _ _ _ HR.box).trans rfl
  have c1 := HR.c1
  have hil := (List.getElem?_eq_some_iff.1 hr).1
  have p1 : (i : Int) < rows.length := by omega
  have p2 : (0 : Int) ≤ (i : Int) := by omega
  have p3 := IntWalk.i64_in (i : Int) (by omega)
  have p4 : (F : Int) ≤ (T : Int) := by omega
  have p5 : (T : Int) ≤ (bx : Int) := by omega
  have p6 : (0 : Int) ≤ (F : Int) := by omega
  have HEN : Hid (Calls Try.prog 40 #[.slice (if bx = F then some ⟨vg, vo, none⟩ else some ⟨vg, vo + F, none⟩) (T - F) (bx - F)] W.drew (EntriesP ((b.drop F).take (T - F)) W.drew)) := Lib.hid (by
    refine entries_any _ _ W.drew ?_ (by rw [List.length_take, List.length_drop]; omega) ?_
    · have h1 : IsB W.drew (.slice (if bx = F then some ⟨vg, vo, none⟩ else some ⟨vg, vo + F, none⟩) (b.length - F) (bx - F)) (b.drop F) := isB_suf (n := F) HR.ob.isB.drew (by omega) rfl rfl (by
        by_cases h8 : bx = F
        · rw [if_pos h8]; exact .inl ⟨h8, rfl⟩
        · rw [if_neg h8]; exact .inr (by rw [Option.map_some, plain_add']))
      exact Codec.IsB.front h1 (T - F) (by rw [List.length_drop]; omega)
    · have := takeFrame_le ((b.drop F).take (T - F))
      rw [List.length_take, List.length_drop] at this
      omega)
  have HK := Lib.hid k3
  have HRR := Lib.hid HR
  by_cases hbF : bx = F
  · exfalso
    have h0 : T - F = 0 := by omega
    rw [h0, List.take_zero] at k3
    cases k3
  rw [if_neg hbF] at HEN
  clear HR hr hF hT k1 k2 k3
  go_enter Try.func51, Try.ntmps51
  go_wp2_with fail
  go_region_held3 (fun w' => w'.cell? ⟨tb, 1, none⟩ = some (.slice (some ⟨lg, 0, none⟩) rows.length lc) ∧ w'.cell? ⟨tb, 0, none⟩ = some (.slice (some ⟨vg, vo, none⟩) b.length bx) ∧ w'.cell? ⟨lg, i * 5, none⟩ = some (.int .i64 F) ∧ w'.cell? ⟨lg, i * 5 + 1, none⟩ = some (.int .i64 T)) (first | exact ⟨by assumption, by assumption, by assumption, by assumption⟩ | go_keep) ((go_at_call 40; have hc := HEN.out; (with_reducible refine Calls.mono hc ?_); clear hc; intro e w3 hq; unfold EntriesP at hq; rw [HK.out] at hq; obtain ⟨v3, rfl, o3, g3⟩ := hq; have O3 := Lib.hid (o3.mono' (Nat.le_of_eq HSZ.out.symm)); have H3 := Lib.hid (HRR.out.below ((Below.refl _ W).drew.trans g3)); have C3 : Hid (Chg (fun b => b = tb) w w3) := Lib.hid (HCH.out.call ((Below.refl _ W).drew.trans g3)); have e1 := H3.out.c1; have e0 : w3.cell? ⟨tb, 0, none⟩ = some (.slice (some ⟨vg, vo, none⟩) b.length bx) := (cell_of_row _ _ 0 _ _ _ H3.out.box).trans rfl; have hg3 : Below W.heap.size W w3 := (Below.refl _ W).drew.trans g3; have f0 := (hg3.cell (p := ⟨lg, i * 5, none⟩) hgl).trans d0; have f1 := (hg3.cell (p := ⟨lg, i * 5 + 1, none⟩) hgl).trans d1; clear o3 g3 hg3))
  all_goals (
    go_wp2_with fail
    go_ret
    exact ⟨_, rfl, O3.out, H3.out, C3.out⟩)
end Ss
end Go.Proofs.Ytmojbamloanleaa
namespace Go.Proofs.Ytmojbamloanleaa
open Go.RowKit
namespace Mt
/-- element j of entries of the call's own -/
theorem OwnEs.at_ {w : World} {base : Nat} {v : Value} {l : List En} (h : OwnEs w base v l) {j : Nat} {x : En} (hx : l[j]? = some x) : ∃ g cap kv vv, v = .slice (some ⟨g, 0, none⟩) l.length cap ∧ g < w.heap.size ∧
    w.cell? ⟨g, j * 4, none⟩ = some kv ∧ w.cell? ⟨g, j * 4 + 1, none⟩ = some (.int .u64 x.2.1) ∧ w.cell? ⟨g, j * 4 + 2, none⟩ = some (.bool x.2.2.1) ∧ w.cell? ⟨g, j * 4 + 3, none⟩ = some vv ∧
    Hid (OwnS w base 5 kv x.1) ∧ Hid (OwnS w base 5 vv x.2.2.2) ∧ Hid (U64 x.2.1) := by
  obtain ⟨rs, rfl, ho, hg⟩ := h
  rw [List.getElem?_map, Option.map_eq_some_iff] at hx
  obtain ⟨r, hr, rfl⟩ := hx
  obtain ⟨ao, cap, hv, -, -, -, -⟩ := own_form ho
  subst hv
  have hc : ∀ i u, (c4 r)[i]? = some u → (rs.flatMap c4)[j * 4 + i]? = some u := fun i u hu => by
    rw [flat_get c4_len rs j i r hr (by have := (List.getElem?_eq_some_iff.1 hu).1; rwa [c4_len] at this)]; exact hu
  obtain ⟨g, hg0, -, hgl, c0⟩ := own_cell ho (hc 0 _ rfl)
  subst hg0
  obtain ⟨g1, g2, g3⟩ := hg r (List.mem_of_getElem? hr)
  exact ⟨g, cap, r.2.1, r.2.2, rfl, hgl, c0, own_cell' ho (hc 1 _ rfl), own_cell' ho (hc 2 _ rfl), own_cell' ho (hc 3 _ rfl), g1, g2, g3⟩
end Mt
namespace Ss
open Mt Codec
/-- the first entry of a block that is asked for -/
def hitF (key : List Int) (seq : Int) (l : List En) : Option En := l.find? fun e => decide (e.1 = key) && decide (e.2.1 ≤ seq)
/-- blocks are read until one holds it, or ends behind the key; how many are read -/
def seekF (key : List Int) (seq : Int) : List Blk → Option En × Nat
  | [] => (none, 0)
  | p :: r => match hitF key seq p.2.2 with
    | some e => (some e, 1)
    | none => if keyZ p.2.2 = key then ((seekF key seq r).1, (seekF key seq r).2 + 1) else (none, 1)
def firstK (bs : List Blk) : List Int := match bs.head? with
  | some p => keyA p.2.2
  | none => []
def lastK (bs : List Blk) : List Int := match bs.getLast? with
  | some p => keyZ p.2.2
  | none => []
def getF (bs : List Blk) (fil key : List Int) (seq : Int) : Option En × Nat :=
  if cmpB key (firstK bs) < 0 ∨ 0 < cmpB key (lastK bs) ∨ Bloom.mayF fil key = false then (none, 0) else seekF key seq (bs.drop (findF bs key))
def zeroE : En := ([], 0, false, [])
theorem OpI.away {base tb : Nat} {w W : World} {bv blv fv av : Value} {b fil : List Int} {cnt rd rd' : Int} {rows : List BV} {all : List En} (h : OpI base w tb bv blv fv av cnt rd b fil rows all) (c : Chg (fun b => b = tb) w W)
    (hx : W.heap[tb]? = some (.cells #[bv, blv, fv, .int .i64 cnt, .int .i64 rd'] 74 (0, 0))) : OpI base W tb bv blv fv av cnt rd' b fil rows all := by
  have hty : ∀ b cur t, w.heap[b]? = some (.cells cur t (0, 0)) → t ≠ 74 → ¬ b = tb := fun b cur t hb ht e => by
    subst e
    exact ht (types_apart hb h.box)
  refine ⟨hx, h.bw, c.ownS h.ob (fun b hb => ?_), c.ownS h.of (fun b hb => ?_), c.own h.ol (fun b hb => ?_), fun r hr => (h.gb r hr).chg c (fun b c hb => hty b _ _ hb (by decide)), h.oa.chg c (fun b c t hb ht => hty b _ _ hb (by rcases ht with rfl | rfl <;> decide))⟩
  · obtain ⟨c, hc⟩ := h.ob.typed b hb; exact hty b _ _ hc (by decide)
  · obtain ⟨c, hc⟩ := h.of.typed b hb; exact hty b _ _ hc (by decide)
  · obtain ⟨-, -, c, hc⟩ := own_typed h.ol b hb; exact hty b _ _ hc (by decide)
/-- what Get keeps: its result's box, the table's box -/
structure GtI (w W : World) (tb : Nat) (bv blv fv : Value) (cnt rd : Int) (kv : Value) (seq : Int) (del : Bool) (vv : Value) : Prop where
  chg : Chg (fun b => b = tb) w W
  tbx : W.heap[tb]? = some (.cells #[bv, blv, fv, .int .i64 cnt, .int .i64 rd] 74 (0, 0))
  lt : tb < w.heap.size
  bx : W.heap[w.heap.size]? = some (.cells #[kv, .int .u64 seq, .bool del, vv] 46 (0, 0))
section
variable {w W W' : World} {tb : Nat} {bv blv fv kv vv : Value} {cnt rd rd' seq : Int} {del : Bool}
theorem GtI.call (h : GtI w W tb bv blv fv cnt rd kv seq del vv) (c : Below W.heap.size W W') : GtI w W' tb bv blv fv cnt rd kv seq del vv :=
  ⟨h.chg.call c, (c.block tb (Nat.lt_of_lt_of_le h.lt h.chg.size)).trans h.tbx, h.lt, (c.block _ (Array.getElem?_eq_some_iff.1 h.bx).1).trans h.bx⟩
theorem GtI.look (h : GtI w W tb bv blv fv cnt rd kv seq del vv) (c : Chg (fun b => b = tb) W W') (hx : W'.heap[tb]? = some (.cells #[bv, blv, fv, .int .i64 cnt, .int .i64 rd'] 74 (0, 0))) : GtI w W' tb bv blv fv cnt rd' kv seq del vv :=
  ⟨h.chg.trans c, hx, h.lt, (c.block _ (Array.getElem?_eq_some_iff.1 h.bx).1 (fun e => by have := h.lt; omega)).trans h.bx⟩
theorem GtI.set (h : GtI w W tb bv blv fv cnt rd kv seq del vv) (i : Nat) (v : Value) {kv' vv' : Value} {seq' : Int} {del' : Bool} (hc : (#[kv, .int .u64 seq, .bool del, vv] : Array Value).setIfInBounds i v = #[kv', .int .u64 seq', .bool del', vv']) :
    GtI w (W.setCell ⟨w.heap.size, i, none⟩ v) tb bv blv fv cnt rd kv' seq' del' vv' :=
  ⟨h.chg.set (p := ⟨w.heap.size, i, none⟩) (fun e => absurd e (Nat.lt_irrefl _)) _, (Below.heap_setCell _ _ _ _ (by have := h.lt; simp only; omega)).trans h.tbx, h.lt, by rw [← hc]; exact heap_setCell_same _ _ _ _ _ _ h.bx⟩
theorem GtI.g0 (h : GtI w W tb bv blv fv cnt rd kv seq del vv) : W.cell? ⟨w.heap.size, 0, none⟩ = some kv := (cell_of_row _ _ 0 _ _ _ h.bx).trans rfl
theorem GtI.g1 (h : GtI w W tb bv blv fv cnt rd kv seq del vv) : W.cell? ⟨w.heap.size, 1, none⟩ = some (.int .u64 seq) := (cell_of_row _ _ 1 _ _ _ h.bx).trans rfl
theorem GtI.g2 (h : GtI w W tb bv blv fv cnt rd kv seq del vv) : W.cell? ⟨w.heap.size, 2, none⟩ = some (.bool del) := (cell_of_row _ _ 2 _ _ _ h.bx).trans rfl
theorem GtI.g3 (h : GtI w W tb bv blv fv cnt rd kv seq del vv) : W.cell? ⟨w.heap.size, 3, none⟩ = some vv := (cell_of_row _ _ 3 _ _ _ h.bx).trans rfl
theorem GtI.fz (h : GtI w W tb bv blv fv cnt rd kv seq del vv) (i : Nat) : W.frozen? ⟨w.heap.size, i, none⟩ = false := frozen_of_row _ _ _ _ _ h.bx
end
/-- what Get answers -/
def GetP (base tb : Nat) (bv blv fv av : Value) (b fil : List Int) (cnt rd : Int) (rows : List BV) (all : List En) (q : Option En × Nat) (w : World) (e : Ending) (w' : World) : Prop :=
  ∃ kv vv, e = .returned (.tuple #[.agg #[kv, .int .u64 (q.1.getD zeroE).2.1, .bool (q.1.getD zeroE).2.2.1, vv], .bool q.1.isSome]) ∧ OwnS w' w.heap.size 5 kv (q.1.getD zeroE).1 ∧ OwnS w' w.heap.size 5 vv (q.1.getD zeroE).2.2.2 ∧ U64 (q.1.getD zeroE).2.1 ∧
    OpI base w' tb bv blv fv av cnt (rd + q.2) b fil rows all ∧ Chg (fun b => b = tb) w w'
theorem getP_no {base tb : Nat} {bv blv fv av : Value} {b fil : List Int} {cnt rd : Int} {rows : List BV} {all : List En} {q : Option En × Nat} {n : Nat} {w w' : World} (hq : q = (none, n)) (h : OpI base w' tb bv blv fv av cnt (rd + n) b fil rows all) (c : Chg (fun b => b = tb) w w') :
    GetP base tb bv blv fv av b fil cnt rd rows all q w (.returned (.tuple #[.agg #[.slice none 0 0, .int .u64 0, .bool false, .slice none 0 0], .bool false])) w' := by
  subst hq
  exact ⟨_, _, rfl, OwnS.none, OwnS.none, ⟨Int.le_refl _, by simp [zeroE]⟩, h, c⟩
end Ss
end Go.Proofs.Ytmojbamloanleaa
namespace Go.Proofs.Ytmojbamloanleaa
open Go.RowKit
namespace Ss
open Mt Codec
/-- bytes stay as they are where only the table's box turns -/
theorem isB_away {base tb : Nat} {w W : World} {bv blv fv av kv : Value} {b fil key : List Int} {cnt rd : Int} {rows : List BV} {all : List En} (h : OpI base w tb bv blv fv av cnt rd b fil rows all) (c : Chg (fun b => b = tb) w W) (hk : IsB w kv key) : IsB W kv key := by
  obtain ⟨h0, ao, cap, h1, h2, h3, h4, h5⟩ := hk
  refine ⟨h0, ao, cap, h1, h2, h3, h4, fun a ha hp => ?_⟩
  obtain ⟨k1, k2, k3⟩ := h5 a ha hp
  have hne : ¬ a.block = tb := fun e => by
    have h6 := k3 0 hp
    rw [e, cell_of_row _ _ _ _ _ _ h.box] at h6
    obtain ⟨a1, c1, e1, -⟩ := h.ob.form
    obtain ⟨a2, c2, e2, -⟩ := own_form h.ol
    obtain ⟨a3, c3, e3, -⟩ := h.of.form
    rw [e1, e2, e3] at h6
    generalize a.off + 0 = j at h6
    match j, h6 with
    | 0, h6 => cases h6
    | 1, h6 => cases h6
    | 2, h6 => cases h6
    | 3, h6 => cases h6
    | 4, h6 => cases h6
    | j + 5, h6 => simp at h6
  exact ⟨k1, Nat.lt_of_lt_of_le k2 c.size, fun i hi => (c.cell k2 hne).trans (k3 i hi)⟩
theorem hitF_cons (key : List Int) (seq : Int) (x : En) (l : List En) : hitF key seq (x :: l) = if x.1 = key ∧ x.2.1 ≤ seq then some x else hitF key seq l := by
  unfold hitF
  rw [List.find?_cons]
  by_cases h1 : x.1 = key <;> by_cases h2 : x.2.1 ≤ seq <;> simp [h1, h2]
theorem hitF_some {key : List Int} {seq : Int} {l : List En} {x : En} (h : hitF key seq l = some x) : x ∈ l := List.mem_of_find?_eq_some h
set_option maxRecDepth 100000 in
set_option maxHeartbeats 8000000 in
theorem get_any (base tb : Nat) (bv blv fv av : Value) (b fil : List Int) (cnt rd : Int) (rows : List BV) (all : List En) (kv : Value) (key : List Int) (seq : Int) (m : Nat) (w : World) (h : OpI base w tb bv blv fv av cnt rd b fil rows all) (hm : rows.length = m + 1) (hml : m ≤ 4194303) (hk : IsB w kv key) (hseq : U64 seq)
    (hok : ∀ r ∈ rows, BlkOk b r.1) (hkl : ∀ r ∈ rows, (keyA r.1.2.2).length ≤ 140737488355328 ∧ (keyZ r.1.2.2).length ≤ 140737488355328 ∧ r.1.2.2.length ≤ 4194304) (hbl : b.length ≤ 4194304) (hb0 : 0 < b.length) (hfl : fil.length ≤ 140737488355328) (hrd : 0 ≤ rd ∧ rd ≤ 1000000000000) :
    Calls Try.prog 18 #[.pointer (some ⟨tb, 0, none⟩), kv, .int .u64 seq] w (GetP base tb bv blv fv av b fil cnt rd rows all (getF (rows.map (·.1)) fil key seq) w) := by
  obtain ⟨ko, kc, rfl, -, -, -⟩ := hk.form
  obtain ⟨r0, hr0⟩ : ∃ r, rows[0]? = some r := ⟨rows[0]'(by omega), List.getElem?_eq_getElem (by omega)⟩
  obtain ⟨rz, hrz⟩ : ∃ r, rows[m]? = some r := ⟨rows[m]'(by omega), List.getElem?_eq_getElem (by omega)⟩
  obtain ⟨lg, lc, hlv, -⟩ := h.row hr0
  rw [hm] at hlv
  subst hlv
  have hF : firstK (rows.map (·.1)) = keyA r0.1.2.2 := by
    unfold firstK
    rw [List.head?_eq_getElem?, List.getElem?_map, hr0]; rfl
  have hZ : lastK (rows.map (·.1)) = keyZ rz.1.2.2 := by
    unfold lastK
    rw [List.getLast?_eq_getElem?, List.length_map, hm, Nat.add_sub_cancel, List.getElem?_map, hrz]; rfl
  have HGF : Hid (getF (rows.map (·.1)) fil key seq = if cmpB key (keyA r0.1.2.2) < 0 ∨ 0 < cmpB key (keyZ rz.1.2.2) ∨ Bloom.mayF fil key = false then (none, 0) else seekF key seq ((rows.map (·.1)).drop (findF (rows.map (·.1)) key))) := Lib.hid (by
    unfold getF
    rw [hF, hZ])
  have h0 := hkl r0 (List.mem_of_getElem? hr0)
  have hz := hkl rz (List.mem_of_getElem? hrz)
  obtain ⟨fo, fc, rfl, -, -, -⟩ := h.of.isB.form
  have W0 : Hid (GtI w (w.alloc (.cells #[.slice none 0 0, .int .u64 0, .bool false, .slice none 0 0] 46)) tb bv (.slice (some ⟨lg, 0, none⟩) (m + 1) lc) (.slice fo fil.length fc) cnt rd (.slice none 0 0) 0 false (.slice none 0 0)) := Lib.hid
    ⟨(Chg.refl _ w).alloc _, (Below.heap_alloc _ _ _ (by have := h.lt; omega)).trans h.box, h.lt, heap_alloc_new w _⟩
  have HH := Lib.hid h
  have HFR : Hid (∀ W, Chg (fun b => b = tb) w W → W.heap[tb]? = some (.cells #[bv, (.slice (some ⟨lg, 0, none⟩) (m + 1) lc), .slice fo fil.length fc, .int .i64 cnt, .int .i64 rd] 74 (0, 0)) → Calls Try.prog 20 #[.pointer (some ⟨tb, 0, none⟩)] W (OwnBP (keyA r0.1.2.2) W)) := Lib.hid (fun W c hx => first_any base tb bv _ _ av b fil cnt rd rows all r0 W (h.away c hx) hr0 h0.1)
  have HLA : Hid (∀ W, Chg (fun b => b = tb) w W → W.heap[tb]? = some (.cells #[bv, (.slice (some ⟨lg, 0, none⟩) (m + 1) lc), .slice fo fil.length fc, .int .i64 cnt, .int .i64 rd] 74 (0, 0)) → Calls Try.prog 21 #[.pointer (some ⟨tb, 0, none⟩)] W (OwnBP (keyZ rz.1.2.2) W)) := Lib.hid (fun W c hx => last_any base tb bv _ _ av b fil cnt rd rows all rz m W (h.away c hx) hm (by omega) hrz hz.2.1)
  have HFI : Hid (∀ W, Chg (fun b => b = tb) w W → W.heap[tb]? = some (.cells #[bv, (.slice (some ⟨lg, 0, none⟩) (m + 1) lc), .slice fo fil.length fc, .int .i64 cnt, .int .i64 rd] 74 (0, 0)) → IsB W (.slice ko key.length kc) key → Calls Try.prog 50 #[.pointer (some ⟨tb, 0, none⟩), .slice ko key.length kc] W (Ret (.int .i64 (findF (rows.map (·.1)) key)) W)) := Lib.hid (fun W c hx hk => find_any base tb bv _ _ av b fil cnt rd rows all _ key W (h.away c hx) (by omega) hk)
  have HLO : Hid (∀ W (i : Nat) (r : BV) (n : Nat), rows[i]? = some r → n ≤ m + 1 → Chg (fun b => b = tb) w W → W.heap[tb]? = some (.cells #[bv, (.slice (some ⟨lg, 0, none⟩) (m + 1) lc), .slice fo fil.length fc, .int .i64 cnt, .int .i64 (rd + n)] 74 (0, 0)) → Calls Try.prog 51 #[.pointer (some ⟨tb, 0, none⟩), .int .i64 i] W (LookP base tb bv (.slice (some ⟨lg, 0, none⟩) (m + 1) lc) (.slice fo fil.length fc) av b fil cnt (rd + n) rows all r.1.2.2 W)) := Lib.hid (fun W i r n hr hn c hx => look_any base tb bv _ _ av b fil cnt (rd + n) rows all r i W (h.away c hx) hr (hok r (List.mem_of_getElem? hr)) (by omega) hbl hb0 (by omega))
  have HRW : Hid (∀ W (i : Nat) (r : BV) (q : Int), rows[i]? = some r → Chg (fun b => b = tb) w W → W.heap[tb]? = some (.cells #[bv, (.slice (some ⟨lg, 0, none⟩) (m + 1) lc), .slice fo fil.length fc, .int .i64 cnt, .int .i64 q] 74 (0, 0)) → W.cell? ⟨lg, i * 5 + 4, none⟩ = some r.2.2 ∧ OwnS W base 5 r.2.2 (keyZ r.1.2.2)) := Lib.hid (fun W i r q hr c hx => by
    obtain ⟨lg', lc', e, -, -, -, -, c4, -, gz⟩ := (h.away c hx).row hr
    rw [hm] at e
    cases e
    exact ⟨c4, gz⟩)
  have HKC : Hid (∀ W, Chg (fun b => b = tb) w W → IsB W (.slice ko key.length kc) key) := Lib.hid (fun W c => isB_away h c hk)
  have HFC : Hid (∀ W, Chg (fun b => b = tb) w W → IsB W (.slice fo fil.length fc) fil) := Lib.hid (fun W c => isB_away h c h.of.isB)
  have HRL : Hid (∀ i, i < m + 1 → ∃ r, rows[i]? = some r ∧ (rows.map (·.1)).drop i = r.1 :: (rows.map (·.1)).drop (i + 1) ∧ r.1.2.2.length ≤ 4194304) := Lib.hid (fun i hi => by
    have hi' : i < rows.length := by omega
    refine ⟨rows[i], List.getElem?_eq_getElem hi', ?_, (hkl _ (List.getElem_mem hi')).2.2⟩
    rw [List.drop_eq_getElem_cons (by rw [List.length_map]; exact hi'), List.getElem_map])
  have HFE : Hid ((rows.map (·.1)).drop (m + 1) = []) := Lib.hid (List.drop_eq_nil_of_le (by rw [List.length_map]; omega))
  have HFL : Hid (findF (rows.map (·.1)) key ≤ m + 1) := Lib.hid (by
    have := (srchF_le (geF (rows.map (·.1)) key) (rows.map (·.1)).length 0 (rows.map (·.1)).length (Nat.zero_le _)).2
    unfold findF
    rw [List.length_map] at this ⊢
    omega)
  generalize rows.map (·.1) = bs at HGF HFI HRL HFE HFL ⊢
  generalize hix : findF bs key = ix at HGF HFI HFL
  clear h h0 hz hr0 hrz hF hZ hk hkl hok hm hix
  go_enter Try.func18, Try.ntmps18
  go_wp2_with fail
  generalize (w.alloc (.cells #[.slice none 0 0, .int .u64 0, .bool false, .slice none 0 0] 46)) = W1 at W0 ⊢
  refine (HFR.out W1 W0.out.chg W0.out.tbx).mono ?_
  rintro e w2 ⟨v2, rfl, o2, b2⟩
  have W2 := Lib.hid (W0.out.call b2)
  have I2 := Lib.hid o2.isB
  clear b2 o2 W0
  obtain ⟨vo2, vc2, rfl, -, -, -⟩ := I2.out.form
  go_wp2_with fail
  refine (ccompare_any _ _ key _ w2 (HKC.out w2 W2.out.chg) I2.out).mono ?_
  rintro e w3 ⟨rfl, rfl⟩
  generalize (keyA r0.1.2.2).length = la at I2 ⊢
  by_cases hA : cmpB key (keyA r0.1.2.2) < 0
  · have HQ : Hid (getF bs fil key seq = (none, 0)) := Lib.hid (by rw [HGF.out, if_pos (.inl hA)])
    generalize cmpB key (keyA r0.1.2.2) = ca at hA ⊢
    have z0 := W2.out.g0
    have z1 := W2.out.g1
    have z2 := W2.out.g2
    have z3 := W2.out.g3
    have f0 := W2.out.fz 0
    have f1 := W2.out.fz 1
    have f2 := W2.out.fz 2
    have f3 := W2.out.fz 3
    go_wp2_with fail
    have WF : Hid (GtI w ((((w2.setCell ⟨w.heap.size, 0, none⟩ (.slice none 0 0)).setCell ⟨w.heap.size, 1, none⟩ (.int .u64 0)).setCell ⟨w.heap.size, 2, none⟩ (.bool false)).setCell ⟨w.heap.size, 3, none⟩ (.slice none 0 0)) tb bv (.slice (some ⟨lg, 0, none⟩) (m + 1) lc) (.slice fo fil.length fc) cnt rd (.slice none 0 0) 0 false (.slice none 0 0)) := Lib.hid ((((W2.out.set 0 (.slice none 0 0) rfl).set 1 (.int .u64 0) rfl).set 2 (.bool false) rfl).set 3 (.slice none 0 0) rfl)
    generalize ((((w2.setCell ⟨w.heap.size, 0, none⟩ (.slice none 0 0)).setCell ⟨w.heap.size, 1, none⟩ (.int .u64 0)).setCell ⟨w.heap.size, 2, none⟩ (.bool false)).setCell ⟨w.heap.size, 3, none⟩ (.slice none 0 0)) = WE at WF ⊢
    clear z0 z1 z2 z3 f0 f1 f2 f3
    have z0 := WF.out.g0
    have z1 := WF.out.g1
    have z2 := WF.out.g2
    have z3 := WF.out.g3
    refine bodyPost_ret (v := .tuple #[.agg #[(.slice none 0 0), .int .u64 0, .bool false, (.slice none 0 0)], .bool false]) (by first | (simp [results, Try.results18, go_sem]; done) | (simp [results, Try.results18, go_sem]; go_simp)) rfl ?_
    exact getP_no (n := 0) HQ.out (HH.out.away WF.out.chg (by have h9 := WF.out.tbx; rw [show rd + (((0 : Nat)) : Int) = rd from by omega]; exact h9)) WF.out.chg
  have HA := Lib.hid hA
  generalize hca : cmpB key (keyA r0.1.2.2) = ca at hA ⊢
  clear hca
  go_wp2_with fail
  refine (HLA.out w2 W2.out.chg W2.out.tbx).mono ?_
  rintro e w4 ⟨v4, rfl, o4, b4⟩
  have W4 := Lib.hid (W2.out.call b4)
  have I4 := Lib.hid o4.isB
  clear b4 o4 W2 I2
  obtain ⟨vo4, vc4, rfl, -, -, -⟩ := I4.out.form
  go_wp2_with fail
  refine (ccompare_any _ _ key _ w4 (HKC.out w4 W4.out.chg) I4.out).mono ?_
  rintro e w5 ⟨rfl, rfl⟩
  generalize (keyZ rz.1.2.2).length = lz at I4 ⊢
  by_cases hB : 0 < cmpB key (keyZ rz.1.2.2)
  · have HQ : Hid (getF bs fil key seq = (none, 0)) := Lib.hid (by rw [HGF.out, if_pos (.inr (.inl hB))])
    generalize cmpB key (keyZ rz.1.2.2) = cb at hB ⊢
    have z0 := W4.out.g0
    have z1 := W4.out.g1
    have z2 := W4.out.g2
    have z3 := W4.out.g3
    have f0 := W4.out.fz 0
    have f1 := W4.out.fz 1
    have f2 := W4.out.fz 2
    have f3 := W4.out.fz 3
    go_wp2_with fail
    have WF : Hid (GtI w ((((w4.setCell ⟨w.heap.size, 0, none⟩ (.slice none 0 0)).setCell ⟨w.heap.size, 1, none⟩ (.int .u64 0)).setCell ⟨w.heap.size, 2, none⟩ (.bool false)).setCell ⟨w.heap.size, 3, none⟩ (.slice none 0 0)) tb bv (.slice (some ⟨lg, 0, none⟩) (m + 1) lc) (.slice fo fil.length fc) cnt rd (.slice none 0 0) 0 false (.slice none 0 0)) := Lib.hid ((((W4.out.set 0 (.slice none 0 0) rfl).set 1 (.int .u64 0) rfl).set 2 (.bool false) rfl).set 3 (.slice none 0 0) rfl)
    generalize ((((w4.setCell ⟨w.heap.size, 0, none⟩ (.slice none 0 0)).setCell ⟨w.heap.size, 1, none⟩ (.int .u64 0)).setCell ⟨w.heap.size, 2, none⟩ (.bool false)).setCell ⟨w.heap.size, 3, none⟩ (.slice none 0 0)) = WE at WF ⊢
    clear z0 z1 z2 z3 f0 f1 f2 f3
    have z0 := WF.out.g0
    have z1 := WF.out.g1
    have z2 := WF.out.g2
    have z3 := WF.out.g3
    refine bodyPost_ret (v := .tuple #[.agg #[(.slice none 0 0), .int .u64 0, .bool false, (.slice none 0 0)], .bool false]) (by first | (simp [results, Try.results18, go_sem]; done) | (simp [results, Try.results18, go_sem]; go_simp)) rfl ?_
    exact getP_no (n := 0) HQ.out (HH.out.away WF.out.chg (by have h9 := WF.out.tbx; rw [show rd + (((0 : Nat)) : Int) = rd from by omega]; exact h9)) WF.out.chg
  have HB := Lib.hid hB
  generalize hcb : cmpB key (keyZ rz.1.2.2) = cb at hB ⊢
  clear hcb I4
  have d2 : w4.cell? ⟨tb, 2, none⟩ = some (.slice fo fil.length fc) := (cell_of_row _ _ 2 _ _ _ W4.out.tbx).trans rfl
  have HMY := Lib.hid (Bloom.may_any _ _ fil key w4 (HFC.out w4 W4.out.chg) (HKC.out w4 W4.out.chg) hfl)
  cases hC : Bloom.mayF fil key
  · have HQ : Hid (getF bs fil key seq = (none, 0)) := Lib.hid (by rw [HGF.out, if_pos (.inr (.inr hC))])
    rw [hC] at HMY
    clear hC
    go_wp2_with fail
    refine HMY.out.mono ?_
    rintro e w6 ⟨rfl, b6⟩
    have W6 := Lib.hid (W4.out.call b6)
    clear b6 d2 W4
    have z0 := W6.out.g0
    have z1 := W6.out.g1
    have z2 := W6.out.g2
    have z3 := W6.out.g3
    have f0 := W6.out.fz 0
    have f1 := W6.out.fz 1
    have f2 := W6.out.fz 2
    have f3 := W6.out.fz 3
    go_wp2_with fail
    have WF : Hid (GtI w ((((w6.setCell ⟨w.heap.size, 0, none⟩ (.slice none 0 0)).setCell ⟨w.heap.size, 1, none⟩ (.int .u64 0)).setCell ⟨w.heap.size, 2, none⟩ (.bool false)).setCell ⟨w.heap.size, 3, none⟩ (.slice none 0 0)) tb bv (.slice (some ⟨lg, 0, none⟩) (m + 1) lc) (.slice fo fil.length fc) cnt rd (.slice none 0 0) 0 false (.slice none 0 0)) := Lib.hid ((((W6.out.set 0 (.slice none 0 0) rfl).set 1 (.int .u64 0) rfl).set 2 (.bool false) rfl).set 3 (.slice none 0 0) rfl)
    generalize ((((w6.setCell ⟨w.heap.size, 0, none⟩ (.slice none 0 0)).setCell ⟨w.heap.size, 1, none⟩ (.int .u64 0)).setCell ⟨w.heap.size, 2, none⟩ (.bool false)).setCell ⟨w.heap.size, 3, none⟩ (.slice none 0 0)) = WE at WF ⊢
    clear z0 z1 z2 z3 f0 f1 f2 f3
    have z0 := WF.out.g0
    have z1 := WF.out.g1
    have z2 := WF.out.g2
    have z3 := WF.out.g3
    refine bodyPost_ret (v := .tuple #[.agg #[(.slice none 0 0), .int .u64 0, .bool false, (.slice none 0 0)], .bool false]) (by first | (simp [results, Try.results18, go_sem]; done) | (simp [results, Try.results18, go_sem]; go_simp)) rfl ?_
    exact getP_no (n := 0) HQ.out (HH.out.away WF.out.chg (by have h9 := WF.out.tbx; rw [show rd + (((0 : Nat)) : Int) = rd from by omega]; exact h9)) WF.out.chg
  have HQ : Hid (getF bs fil key seq = seekF key seq (bs.drop ix)) := Lib.hid (by rw [HGF.out, if_neg (fun h => h.elim (fun h => by have := HA.out; omega) (fun h => h.elim (fun h => by have := HB.out; omega) (fun h => by rw [hC] at h; cases h)))])
  rw [hC] at HMY
  clear hC
  go_wp2_with fail
  refine HMY.out.mono ?_
  rintro e w6 ⟨rfl, b6⟩
  have W6 := Lib.hid (W4.out.call b6)
  clear b6 d2 W4 HMY
  go_wp2_with fail
  refine (HFI.out w6 W6.out.chg W6.out.tbx (HKC.out w6 W6.out.chg)).mono ?_
  rintro e w7 ⟨rfl, b7⟩
  have W7 := Lib.hid (W6.out.call b7)
  clear b7 W6
  go_wp2_with fail
  go_loopw [8] (fun iv wr => ∃ i n : Nat, iv = .int .i64 i ∧ i ≤ m + 1 ∧ n ≤ i ∧ Hid (GtI w wr tb bv (.slice (some ⟨lg, 0, none⟩) (m + 1) lc) (.slice fo fil.length fc) cnt (rd + n) (.slice none 0 0) 0 false (.slice none 0 0)) ∧ Hid (getF bs fil key seq = ((seekF key seq (bs.drop i)).1, n + (seekF key seq (bs.drop i)).2))) (fun iv _ => m + 1 - (intOf iv).toNat)
  case atStart => exact ⟨ix, 0, rfl, HFL.out, Nat.zero_le _, Lib.hid (by rw [show rd + ((0 : Nat) : Int) = rd from by omega]; exact W7.out), Lib.hid (by rw [HQ.out, Nat.zero_add])⟩
  case round =>
    obtain ⟨i, n, rfl, hi, hn, hg, hq⟩ := hrel
    have c1 : wr.cell? ⟨tb, 1, none⟩ = some (.slice (some ⟨lg, 0, none⟩) (m + 1) lc) := (cell_of_row _ _ 1 _ _ _ hg.out.tbx).trans rfl
    by_cases hlt : i < m + 1
    · obtain ⟨r, hr, hdr, hll⟩ := HRL.out i hlt
      have HLK := Lib.hid (HLO.out wr i r n hr (by omega) hg.out.chg hg.out.tbx)
      have HR := Lib.hid hr
      have HS : Hid (seekF key seq (bs.drop i) = match hitF key seq r.1.2.2 with
        | some e => (some e, 1)
        | none => if keyZ r.1.2.2 = key then ((seekF key seq (bs.drop (i + 1))).1, (seekF key seq (bs.drop (i + 1))).2 + 1) else (none, 1)) := Lib.hid (by rw [hdr]; rfl)
      have p0 : (i : Int) < (m : Int) + 1 := by omega
      have p1 := IntWalk.i64_in ((i : Int) + 1) (by omega)
      clear hr hdr
      go_wp2_with fail
      refine HLK.out.mono ?_
      unfold LookP
      rintro e w8 ⟨v8, rfl, o8, q8, c8⟩
      have G8 := Lib.hid (hg.out.look c8 q8.box)
      have E8 := Lib.hid o8
      obtain ⟨vo8, vc8, hv8, -⟩ : ∃ a c, v8 = .slice a r.1.2.2.length c ∧ True := by
        obtain ⟨rs, -, ho, -⟩ := o8
        obtain ⟨a, c, e, -⟩ := own_form ho
        exact ⟨a, c, e, trivial⟩
      subst hv8
      have HW8 : Hid (w.heap.size ≤ wr.heap.size) := Lib.hid hg.out.chg.size
      generalize hl8 : r.1.2.2 = l at E8 HS hll ⊢
      have HL8 := Lib.hid hl8
      clear o8 q8 c8 HLK hg c1 hl8
      obtain ⟨L, hL⟩ : ∃ L, l.length = L := ⟨_, rfl⟩
      rw [hL] at hll ⊢
      have HLE := Lib.hid hL
      rw [hL] at E8
      clear hL
      go_wp2_with fail
      obtain ⟨wo, hwo⟩ : ∃ wo, wo = wr := ⟨_, rfl⟩
      subst hwo
      go_loopw [49] (fun jv wr => ∃ j : Nat, jv = .int .i64 j ∧ j ≤ L ∧ Hid (hitF key seq l = hitF key seq (l.drop j)) ∧ Hid (Below w8.heap.size w8 wr)) (fun jv _ => L - (intOf jv).toNat)
      case atStart => exact ⟨0, rfl, Nat.zero_le _, Lib.hid (by rw [List.drop_zero]), Below.refl _ _⟩
      case round =>
        obtain ⟨j, rfl, hj, hh, hb⟩ := hrel
        by_cases hjl : j < L
        · obtain ⟨x, hx⟩ : ∃ x, l[j]? = some x := ⟨l[j]'(by have := HLE.out; omega), List.getElem?_eq_getElem (by have := HLE.out; omega)⟩
          obtain ⟨g, cap, kv, vv, hv, hgl, x0', x1', x2', x3', okv, ovv, hu⟩ := E8.out.at_ hx
          rw [HLE.out] at hv
          cases hv
          have HDR : Hid (l.drop j = x :: l.drop (j + 1)) := Lib.hid (by
            have hjl2 := (List.getElem?_eq_some_iff.1 hx)
            rw [List.drop_eq_getElem_cons hjl2.1, hjl2.2])
          have HHC : Hid (hitF key seq l = if x.1 = key ∧ x.2.1 ≤ seq then some x else hitF key seq (l.drop (j + 1))) := Lib.hid (by rw [hh.out, HDR.out, hitF_cons])
          obtain ⟨k9o, k9c, rfl, -, -, -, -⟩ := okv.out.form
          obtain ⟨v9o, v9c, rfl, -, -, -, -⟩ := ovv.out.form
          have x0 := (hb.out.cell (p := ⟨g, j * 4, none⟩) hgl).trans x0'
          have x1 := (hb.out.cell (p := ⟨g, j * 4 + 1, none⟩) hgl).trans x1'
          have x2 := (hb.out.cell (p := ⟨g, j * 4 + 2, none⟩) hgl).trans x2'
          have x3 := (hb.out.cell (p := ⟨g, j * 4 + 3, none⟩) hgl).trans x3'
          have p2 : (j : Int) < (L : Int) := by omega
          have p3 : (0 : Int) ≤ (j : Int) := by omega
          have p4 := IntWalk.i64_in ((j : Int) + 1) (by omega)
          obtain ⟨X1, hX1⟩ : ∃ X1, x.1.length = X1 := ⟨_, rfl⟩
          obtain ⟨X2, hX2⟩ : ∃ X2, x.2.2.2.length = X2 := ⟨_, rfl⟩
          rw [hX1] at okv x0
          rw [hX2] at ovv x3
          have GA : Hid (Below w8.heap.size w8 (wr.alloc (.cells #[.slice k9o X1 k9c, .int .u64 x.2.1, .bool x.2.2.1, .slice v9o X2 v9c] 46))) := Lib.hid (bel_alloc hb.out _)
          have HEB : Hid ((wr.alloc (.cells #[.slice k9o X1 k9c, .int .u64 x.2.1, .bool x.2.2.1, .slice v9o X2 v9c] 46)).heap[wr.heap.size]? = some (.cells #[.slice k9o X1 k9c, .int .u64 x.2.1, .bool x.2.2.1, .slice v9o X2 v9c] 46 (0, 0))) := Lib.hid (heap_alloc_new wr _)
          clear hx x0' x1' x2' x3' hh hX1 hX2
          go_wp2_with fail
          generalize (wr.alloc (.cells #[.slice k9o X1 k9c, .int .u64 x.2.1, .bool x.2.2.1, .slice v9o X2 v9c] 46)) = WX at GA HEB ⊢
          generalize wr.heap.size = eb at HEB ⊢
          have GX := Lib.hid (G8.out.call GA.out)
          have OKX := Lib.hid ((okv.out.below GA.out).mono HW8.out)
          have OVX := Lib.hid ((ovv.out.below GA.out).mono HW8.out)
          refine (bytesEqual_any _ _ x.1 key WX OKX.out.isB (HKC.out WX GX.out.chg)).mono ?_
          rintro e w9 ⟨rfl, rfl⟩
          have e0 : WX.cell? ⟨eb, 0, none⟩ = some (.slice k9o X1 k9c) := (cell_of_row _ _ 0 _ _ _ HEB.out).trans rfl
          have e1 : WX.cell? ⟨eb, 1, none⟩ = some (.int .u64 x.2.1) := (cell_of_row _ _ 1 _ _ _ HEB.out).trans rfl
          have e2 : WX.cell? ⟨eb, 2, none⟩ = some (.bool x.2.2.1) := (cell_of_row _ _ 2 _ _ _ HEB.out).trans rfl
          have e3 : WX.cell? ⟨eb, 3, none⟩ = some (.slice v9o X2 v9c) := (cell_of_row _ _ 3 _ _ _ HEB.out).trans rfl
          clear x0 x1 x2 x3 okv ovv hgl
          by_cases hke : x.1 = key
          · rw [decide_eq_true hke]
            by_cases hse : x.2.1 ≤ seq
            · have HQ3 : Hid (getF bs fil key seq = (some x, n + 1)) := Lib.hid (by rw [hq.out, HS.out, HHC.out, if_pos ⟨hke, hse⟩])
              clear hke
              have z0 := GX.out.g0
              have z1 := GX.out.g1
              have z2 := GX.out.g2
              have z3 := GX.out.g3
              have f0 := GX.out.fz 0
              have f1 := GX.out.fz 1
              have f2 := GX.out.fz 2
              have f3 := GX.out.fz 3
              go_wp2_with fail
              have WF : Hid (GtI w ((((WX.setCell ⟨w.heap.size, 0, none⟩ (.slice k9o X1 k9c)).setCell ⟨w.heap.size, 1, none⟩ (.int .u64 x.2.1)).setCell ⟨w.heap.size, 2, none⟩ (.bool x.2.2.1)).setCell ⟨w.heap.size, 3, none⟩ (.slice v9o X2 v9c)) tb bv (.slice (some ⟨lg, 0, none⟩) (m + 1) lc) (.slice fo fil.length fc) cnt (rd + n + 1) (.slice k9o X1 k9c) x.2.1 x.2.2.1 (.slice v9o X2 v9c)) := Lib.hid ((((GX.out.set 0 (.slice k9o X1 k9c) rfl).set 1 (.int .u64 x.2.1) rfl).set 2 (.bool x.2.2.1) rfl).set 3 (.slice v9o X2 v9c) rfl)
              have hne : ∀ {v : Value} {l : List Int}, OwnS WX w.heap.size 5 v l → OwnS ((((WX.setCell ⟨w.heap.size, 0, none⟩ (.slice k9o X1 k9c)).setCell ⟨w.heap.size, 1, none⟩ (.int .u64 x.2.1)).setCell ⟨w.heap.size, 2, none⟩ (.bool x.2.2.1)).setCell ⟨w.heap.size, 3, none⟩ (.slice v9o X2 v9c)) w.heap.size 5 v l := fun {v l} hv => by
                have hn : ∀ b, v.ownBlock = some b → b ≠ w.heap.size := fun b e1 e2 => by
                  obtain ⟨c9, hc9⟩ := hv.typed b e1
                  rw [e2] at hc9
                  exact absurd (types_apart hc9 GX.out.bx) (by decide)
                exact ownS_set (ownS_set (ownS_set (ownS_set hv (p := ⟨w.heap.size, 0, none⟩) hn _) (p := ⟨w.heap.size, 1, none⟩) hn _) (p := ⟨w.heap.size, 2, none⟩) hn _) (p := ⟨w.heap.size, 3, none⟩) hn _
              have OKF := Lib.hid (hne OKX.out)
              have OVF := Lib.hid (hne OVX.out)
              clear hne
              generalize ((((WX.setCell ⟨w.heap.size, 0, none⟩ (.slice k9o X1 k9c)).setCell ⟨w.heap.size, 1, none⟩ (.int .u64 x.2.1)).setCell ⟨w.heap.size, 2, none⟩ (.bool x.2.2.1)).setCell ⟨w.heap.size, 3, none⟩ (.slice v9o X2 v9c)) = WE at WF OKF OVF ⊢
              clear z0 z1 z2 z3 f0 f1 f2 f3
              have z0 := WF.out.g0
              have z1 := WF.out.g1
              have z2 := WF.out.g2
              have z3 := WF.out.g3
              refine bodyPost_ret (v := .tuple #[.agg #[(.slice k9o X1 k9c), .int .u64 x.2.1, .bool x.2.2.1, (.slice v9o X2 v9c)], .bool true]) (by first | (simp [results, Try.results18, go_sem]; done) | (simp [results, Try.results18, go_sem]; go_simp)) rfl ?_
              unfold GetP
              rw [HQ3.out]
              exact ⟨_, _, rfl, OKF.out, OVF.out, hu.out, HH.out.away WF.out.chg (by have h9 := WF.out.tbx; rw [show rd + ((((n + 1) : Nat)) : Int) = (rd + n + 1) from by omega]; exact h9), WF.out.chg⟩
            · have HHN : Hid (hitF key seq l = hitF key seq (l.drop (j + 1))) := Lib.hid (by rw [HHC.out, if_neg (fun h => hse h.2)])
              clear hke
              go_wp2_with fail
              go_roundw
              case rel => exact ⟨j + 1, by go_num, by omega, HHN, GA⟩
              case measure => simp [intOf] <;> omega
          · rw [decide_eq_false hke]
            have HHN : Hid (hitF key seq l = hitF key seq (l.drop (j + 1))) := Lib.hid (by rw [HHC.out, if_neg (fun h => hke h.1)])
            clear hke
            go_wp2_with fail
            go_roundw
            case rel => exact ⟨j + 1, by go_num, by omega, HHN, GA⟩
            case measure => simp [intOf] <;> omega
        · have hje : j = L := by omega
          subst hje
          have HN : Hid (hitF key seq l = none) := Lib.hid (by rw [hh.out, List.drop_eq_nil_of_le (by have := HLE.out; omega)]; rfl)
          have HS2 : Hid (seekF key seq (bs.drop i) = if keyZ r.1.2.2 = key then ((seekF key seq (bs.drop (i + 1))).1, (seekF key seq (bs.drop (i + 1))).2 + 1) else (none, 1)) := Lib.hid (by rw [HS.out, HN.out, HL8.out])
          have p2 : ¬ (j : Int) < (j : Int) := by omega
          have GX := Lib.hid (G8.out.call hb.out)
          obtain ⟨d4, oz⟩ := HRW.out wr i r _ HR.out GX.out.chg GX.out.tbx
          obtain ⟨zo, zc, hzv, -, -, -, -⟩ := oz.form
          rw [hzv] at d4 oz
          have c1 : wr.cell? ⟨tb, 1, none⟩ = some (.slice (some ⟨lg, 0, none⟩) (m + 1) lc) := (cell_of_row _ _ 1 _ _ _ GX.out.tbx).trans rfl
          have HEQ := Lib.hid (bytesEqual_any _ _ _ key wr oz.isB (HKC.out wr GX.out.chg))
          have p3 : (0 : Int) ≤ (i : Int) := by omega
          have p5 := IntWalk.i64_in (i : Int) (by omega)
          clear oz hzv hh HR HS
          by_cases hze : keyZ r.1.2.2 = key
          · have HQ3 : Hid (getF bs fil key seq = ((seekF key seq (bs.drop (i + 1))).1, (n + 1) + (seekF key seq (bs.drop (i + 1))).2)) := Lib.hid (by rw [hq.out, HS2.out, if_pos hze]; simp only [Prod.mk.injEq, true_and]; omega)
            rw [decide_eq_true hze] at HEQ
            clear hze HS2
            go_wp2_with fail
            refine HEQ.out.mono ?_
            rintro e w9 ⟨rfl, rfl⟩
            go_wp2_with fail
            go_roundw
            case rel => exact ⟨i + 1, n + 1, by go_num, by omega, by omega, Lib.hid (by have h9 := GX.out; rw [show rd + ((n + 1 : Nat) : Int) = rd + n + 1 from by omega]; exact h9), HQ3⟩
            case measure => simp [intOf] <;> omega
          · have HQ3 : Hid (getF bs fil key seq = (none, n + 1)) := Lib.hid (by rw [hq.out, HS2.out, if_neg hze])
            rw [decide_eq_false hze] at HEQ
            clear hze HS2
            go_wp2_with fail
            refine HEQ.out.mono ?_
            rintro e w9 ⟨rfl, rfl⟩
            have z0 := GX.out.g0
            have z1 := GX.out.g1
            have z2 := GX.out.g2
            have z3 := GX.out.g3
            have f0 := GX.out.fz 0
            have f1 := GX.out.fz 1
            have f2 := GX.out.fz 2
            have f3 := GX.out.fz 3
            go_wp2_with fail
            have WF : Hid (GtI w ((((wr.setCell ⟨w.heap.size, 0, none⟩ (.slice none 0 0)).setCell ⟨w.heap.size, 1, none⟩ (.int .u64 0)).setCell ⟨w.heap.size, 2, none⟩ (.bool false)).setCell ⟨w.heap.size, 3, none⟩ (.slice none 0 0)) tb bv (.slice (some ⟨lg, 0, none⟩) (m + 1) lc) (.slice fo fil.length fc) cnt (rd + n + 1) (.slice none 0 0) 0 false (.slice none 0 0)) := Lib.hid ((((GX.out.set 0 (.slice none 0 0) rfl).set 1 (.int .u64 0) rfl).set 2 (.bool false) rfl).set 3 (.slice none 0 0) rfl)
            generalize ((((wr.setCell ⟨w.heap.size, 0, none⟩ (.slice none 0 0)).setCell ⟨w.heap.size, 1, none⟩ (.int .u64 0)).setCell ⟨w.heap.size, 2, none⟩ (.bool false)).setCell ⟨w.heap.size, 3, none⟩ (.slice none 0 0)) = WE at WF ⊢
            clear z0 z1 z2 z3 f0 f1 f2 f3
            have z0 := WF.out.g0
            have z1 := WF.out.g1
            have z2 := WF.out.g2
            have z3 := WF.out.g3
            refine bodyPost_ret (v := .tuple #[.agg #[(.slice none 0 0), .int .u64 0, .bool false, (.slice none 0 0)], .bool false]) (by first | (simp [results, Try.results18, go_sem]; done) | (simp [results, Try.results18, go_sem]; go_simp)) rfl ?_
            exact getP_no (n := (n + 1)) HQ3.out (HH.out.away WF.out.chg (by have h9 := WF.out.tbx; rw [show rd + ((((n + 1) : Nat)) : Int) = (rd + n + 1) from by omega]; exact h9)) WF.out.chg
    · have hie : i = m + 1 := by omega
      subst hie
      have p0 : ¬ (((m + 1 : Nat) : Int) < (m : Int) + 1) := by omega
      have HQ2 : Hid (getF bs fil key seq = (none, n)) := Lib.hid (by rw [hq.out, HFE.out]; rfl)
      have z0 := hg.out.g0
      have z1 := hg.out.g1
      have z2 := hg.out.g2
      have z3 := hg.out.g3
      have f0 := hg.out.fz 0
      have f1 := hg.out.fz 1
      have f2 := hg.out.fz 2
      have f3 := hg.out.fz 3
      go_wp2_with fail
      have WF : Hid (GtI w ((((wr.setCell ⟨w.heap.size, 0, none⟩ (.slice none 0 0)).setCell ⟨w.heap.size, 1, none⟩ (.int .u64 0)).setCell ⟨w.heap.size, 2, none⟩ (.bool false)).setCell ⟨w.heap.size, 3, none⟩ (.slice none 0 0)) tb bv (.slice (some ⟨lg, 0, none⟩) (m + 1) lc) (.slice fo fil.length fc) cnt (rd + n) (.slice none 0 0) 0 false (.slice none 0 0)) := Lib.hid ((((hg.out.set 0 (.slice none 0 0) rfl).set 1 (.int .u64 0) rfl).set 2 (.bool false) rfl).set 3 (.slice none 0 0) rfl)
      generalize ((((wr.setCell ⟨w.heap.size, 0, none⟩ (.slice none 0 0)).setCell ⟨w.heap.size, 1, none⟩ (.int .u64 0)).setCell ⟨w.heap.size, 2, none⟩ (.bool false)).setCell ⟨w.heap.size, 3, none⟩ (.slice none 0 0)) = WE at WF ⊢
      clear z0 z1 z2 z3 f0 f1 f2 f3
      have z0 := WF.out.g0
      have z1 := WF.out.g1
      have z2 := WF.out.g2
      have z3 := WF.out.g3
      refine bodyPost_ret (v := .tuple #[.agg #[(.slice none 0 0), .int .u64 0, .bool false, (.slice none 0 0)], .bool false]) (by first | (simp [results, Try.results18, go_sem]; done) | (simp [results, Try.results18, go_sem]; go_simp)) rfl ?_
      exact getP_no (n := n) HQ2.out (HH.out.away WF.out.chg (by have h9 := WF.out.tbx; rw [show rd + (((n : Nat)) : Int) = (rd + n) from by omega]; exact h9)) WF.out.chg
end Ss
end Go.Proofs.Ytmojbamloanleaa
