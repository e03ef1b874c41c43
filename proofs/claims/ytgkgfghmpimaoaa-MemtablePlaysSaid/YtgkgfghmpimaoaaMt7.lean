/- memtable: lists of entries of the call's own; Get, Level (walks). -/
import Derived.Test.YtgkgfghmpimaoaaMt6
set_option linter.unusedVariables false
set_option linter.unusedSimpArgs false
namespace Go.Proofs.Ytgkgfghmpimaoaa
open Go.RowKit
namespace Mt
abbrev EV : Type := En × Value × Value
def c4 (r : EV) : List Value := [r.2.1, .int .u64 r.1.2.1, .bool r.1.2.2.1, r.2.2]
theorem c4_len (r : EV) : (c4 r).length = 4 := rfl
def GoodE (w : World) (base : Nat) (r : EV) : Prop := OwnS w base 5 r.2.1 r.1.1 ∧ OwnS w base 5 r.2.2 r.1.2.2.2 ∧ U64 r.1.2.1
/-- a slice of entries of the call's own, their bytes too -/
def OwnEs (w : World) (base : Nat) (v : Value) (l : List En) : Prop := ∃ rs : List EV, rs.map (·.1) = l ∧ w.ownsRow base 32 4 v l.length (rs.flatMap c4) ∧ ∀ r ∈ rs, GoodE w base r
theorem OwnEs.isEs {w : World} {base : Nat} {v : Value} {l : List En} (h : OwnEs w base v l) : IsEs w v l := by
  obtain ⟨rs, rfl, ho, hg⟩ := h
  obtain ⟨ao, cap, rfl, h1, h2, h3, h4⟩ := own_form ho
  refine ⟨ao, cap, rfl, h1, by unfold maxLen; omega, fun hn => ⟨List.eq_nil_of_length_eq_zero (h3 hn).1, (h3 hn).2⟩, fun i x hx => ?_⟩
  rw [List.getElem?_map, Option.map_eq_some_iff] at hx
  obtain ⟨r, hr, rfl⟩ := hx
  have hrm := List.mem_of_getElem? hr
  have hc : ∀ j u, (c4 r)[j]? = some u → (rs.flatMap c4)[i * 4 + j]? = some u := fun j u hu => by
    rw [flat_get c4_len rs i j r hr (by have := (List.getElem?_eq_some_iff.1 hu).1; rwa [c4_len] at this)]; exact hu
  obtain ⟨g, hao, hbg, hgl, hcell⟩ := own_cell ho (hc 0 _ rfl)
  subst hao
  refine ⟨g, 0, c4 r, rfl, hgl, rfl, fun j u hu => ?_, r.2.1, r.2.2, rfl, (hg r hrm).1.isB, (hg r hrm).2.1.isB, (hg r hrm).2.2⟩
  rw [Nat.zero_add]
  exact own_cell' ho (hc j u hu)
theorem GoodE.chg {S : Nat → Prop} {w w1 : World} {base : Nat} {r : EV} (h : GoodE w base r) (k : Chg S w w1) (hS : ∀ b cur, w.heap[b]? = some (.cells cur 5 (0, 0)) → ¬ S b) : GoodE w1 base r :=
  ⟨k.ownS h.1 (fun b hb => by obtain ⟨c, hc⟩ := h.1.typed b hb; exact hS b c hc), k.ownS h.2.1 (fun b hb => by obtain ⟨c, hc⟩ := h.2.1.typed b hb; exact hS b c hc), h.2.2⟩
theorem GoodE.below {w w1 : World} {base : Nat} {r : EV} (h : GoodE w base r) (k : Below w.heap.size w w1) : GoodE w1 base r := ⟨h.1.below k, h.2.1.below k, h.2.2⟩
theorem OwnEs.below {w w1 : World} {base : Nat} {v : Value} {l : List En} (h : OwnEs w base v l) (k : Below w.heap.size w w1) : OwnEs w1 base v l := by
  obtain ⟨rs, rfl, ho, hg⟩ := h
  exact ⟨rs, rfl, own_below ho k, fun r hr => (hg r hr).below k⟩
theorem GoodE.grown {w w1 : World} {base : Nat} {r : EV} {v : Value} {n : Nat} {xs : List Value} (h : GoodE w base r) (ho : w.ownsRow base 32 4 v n xs) (k : w.grownBy w1 v.ownBlock) : GoodE w1 base r :=
  h.chg (Chg.of_grown k (S := fun b => v.ownBlock = some b) (fun _ _ h => h)) (fun b cur hb hv => by
    obtain ⟨-, -, c, hc⟩ := own_typed ho b hv
    exact absurd (types_apart hc hb) (by decide))
theorem OwnEs.push {w w1 : World} {base : Nat} {v v' : Value} {rs : List EV} {r : EV} (ho : w.ownsRow base 32 4 v rs.length (rs.flatMap c4)) (hg : ∀ r ∈ rs, GoodE w base r) (hr : GoodE w base r)
    (h1 : w1.ownsRow base 32 4 v' (rs.length + 1) (rs.flatMap c4 ++ c4 r)) (k : w.grownBy w1 v.ownBlock) : OwnEs w1 base v' (rs.map (·.1) ++ [r.1]) := by
  refine ⟨rs ++ [r], by simp, ?_, fun s hs => ?_⟩
  · rw [List.length_append, List.length_map, List.flatMap_append, List.flatMap_cons, List.flatMap_nil, List.append_nil]
    exact h1
  · rcases List.mem_append.1 hs with hs | hs
    · exact (hg s hs).grown ho k
    · rw [List.mem_singleton] at hs
      subst hs
      exact hr.grown ho k
theorem infoEn : (Try.prog.info? 32).map (fun i => (i.zero, i.size, i.bytes)) = some (some (.agg #[.slice none 0 0, .int .u64 0, .bool false, .slice none 0 0]), 4, 64) := by kernel_rfl
def zeroE : En := ([], 0, false, [])
/-- what Get answers -/
def getE (l : List En) (pos : Nat) (key : List Int) : En × Bool := match l[pos]? with
  | some x => if x.1 = key then (x, true) else (zeroE, false)
  | none => (zeroE, false)
def GetP (r : En × Bool) (w : World) (e : Ending) (w' : World) : Prop := ∃ kv vv, e = .returned (.tuple #[.agg #[kv, .int .u64 r.1.2.1, .bool r.1.2.2.1, vv], .bool r.2]) ∧ OwnS w' w.heap.size 5 kv r.1.1 ∧ OwnS w' w.heap.size 5 vv r.1.2.2.2 ∧ Below w.heap.size w w'
theorem ownS_nil {w : World} {base : Nat} {e : TypeId} : OwnS w base e (.slice none 0 0) [] := ⟨Rng.nil, .inl ⟨rfl, rfl⟩⟩
set_option maxRecDepth 100000 in
set_option maxHeartbeats 4000000 in
theorem get_any (S : Nat → Prop) (tb : Nat) (hs : List Int) (hd : Nd) (L : List Nd) (kv : Value) (key : List Int) (seq : Int) (pos : Nat) (w : World) (hT : TabI S w tb hs hd L) (hk : IsB w kv key) (hp : Pos (L.map (·.x)) key seq pos) :
    Calls Try.prog 9 #[.pointer (some ⟨tb, 0, none⟩), kv, .int .u64 seq] w (GetP (getE (L.map (·.x)) pos key) w) := by
  have hb0 := bel_alloc (Below.refl _ w) (.cells #[.slice none 0 0, .int .u64 0, .bool false, .slice none 0 0] 32)
  have HC := Lib.hid (place_any S tb hs hd L kv key seq pos _ (hT.below hb0) (hk.below hb0) hp)
  obtain ⟨ko, kc, rfl, -, -, -⟩ := hk.form
  have HT := Lib.hid hT
  have HK := Lib.hid hk
  have hpl : pos ≤ L.length := by have := hp.1; rwa [List.length_map] at this
  have HPL := Lib.hid hpl
  have hmk := hk.max
  clear hT hk hp hb0 hpl
  go_enter Try.func9, Try.ntmps9
  go_wp2_with fail
  refine HC.out.mono ?_
  unfold PlaceP
  rintro e w1 ⟨rfl, hb⟩
  have HB1 : Hid (Below w.heap.size w w1) := Lib.hid (bel_call (bel_alloc (Below.refl _ w) _) hb)
  have c0 : w1.cell? ⟨w.heap.size, 0, none⟩ = some (.slice none 0 0) := (hb.cell (p := ⟨w.heap.size, 0, none⟩) (by simp <;> omega)).trans (by first | (go_simp; done) | (rw [World.cell?_setCell_other (by simp)]; assumption) | exact World.cell?_setCell_same' _ _ _ (by simp [*]))
  have cf0 : w1.frozen? ⟨w.heap.size, 0, none⟩ = false := (hb.frozen (p := ⟨w.heap.size, 0, none⟩) (by simp <;> omega)).trans (by first | (go_simp; done) | (rw [World.frozen?_setCell]; assumption))
  have c1 : w1.cell? ⟨w.heap.size, 1, none⟩ = some (.int .u64 0) := (hb.cell (p := ⟨w.heap.size, 1, none⟩) (by simp <;> omega)).trans (by first | (go_simp; done) | (rw [World.cell?_setCell_other (by simp)]; assumption) | exact World.cell?_setCell_same' _ _ _ (by simp [*]))
  have cf1 : w1.frozen? ⟨w.heap.size, 1, none⟩ = false := (hb.frozen (p := ⟨w.heap.size, 1, none⟩) (by simp <;> omega)).trans (by first | (go_simp; done) | (rw [World.frozen?_setCell]; assumption))
  have c2 : w1.cell? ⟨w.heap.size, 2, none⟩ = some (.bool false) := (hb.cell (p := ⟨w.heap.size, 2, none⟩) (by simp <;> omega)).trans (by first | (go_simp; done) | (rw [World.cell?_setCell_other (by simp)]; assumption) | exact World.cell?_setCell_same' _ _ _ (by simp [*]))
  have cf2 : w1.frozen? ⟨w.heap.size, 2, none⟩ = false := (hb.frozen (p := ⟨w.heap.size, 2, none⟩) (by simp <;> omega)).trans (by first | (go_simp; done) | (rw [World.frozen?_setCell]; assumption))
  have c3 : w1.cell? ⟨w.heap.size, 3, none⟩ = some (.slice none 0 0) := (hb.cell (p := ⟨w.heap.size, 3, none⟩) (by simp <;> omega)).trans (by first | (go_simp; done) | (rw [World.cell?_setCell_other (by simp)]; assumption) | exact World.cell?_setCell_same' _ _ _ (by simp [*]))
  have cf3 : w1.frozen? ⟨w.heap.size, 3, none⟩ = false := (hb.frozen (p := ⟨w.heap.size, 3, none⟩) (by simp <;> omega)).trans (by first | (go_simp; done) | (rw [World.frozen?_setCell]; assumption))
  obtain ⟨nd, -, -, h2, h3, h4, h5, h6, h7, h8, -⟩ := (HT.out.below HB1.out).beh HPL.out (j := 0) (by omega)
  rw [h2] at h5 h7
  rw [nxt0 (fun n hn => (HT.out.nds n (List.mem_cons_of_mem _ hn)).hh.1)] at h6
  have q0 : (0 : Int) < nd.h := by omega
  clear h2 hb
  have zz : w.heap.size < w1.heap.size := by have := c0; exact World.block_lt_of_cell? w1 ⟨w.heap.size, 0, none⟩ this
  cases hx : L[pos]? with
  | none =>
    rw [hx] at h6
    simp only [Option.map_none] at h6
    have HE : Hid (getE (L.map (·.x)) pos key = (zeroE, false)) := Lib.hid (by unfold getE; rw [List.getElem?_map, hx]; rfl)
    clear hx
    go_wp2_with fail
    rw [HE.out]
    refine bodyPost_ret (v := .tuple #[.agg #[.slice none 0 0, .int .u64 0, .bool false, .slice none 0 0], .bool false]) (by simp [results, Try.results9, go_sem]; go_simp) rfl ⟨_, _, rfl, ownS_nil, ownS_nil, ?_⟩
    have hB := HB1.out
    exact (by repeat' (first | (with_reducible exact Below.refl _ _) | (with_reducible assumption) | (with_reducible refine Below.drew ?_) | (with_reducible refine below_drewN ?_ _) | (with_reducible refine bel_alloc ?_ _) | (with_reducible refine Below.setCell ?_ ?_ _) | (with_reducible refine bel_call ?_ (by assumption)) | (simp <;> omega)))
  | some n =>
    rw [hx] at h6
    simp only [Option.map_some] at h6
    have hn := HT.out.nds n (List.mem_cons_of_mem _ (List.mem_of_getElem? hx))
    have hn1 := hn.keep (Chg.of_ext HB1.out)
    obtain ⟨n0, n1, n2, n3, -, nl⟩ := hn1.cells
    obtain ⟨no, nc, ek, -, -, -, -⟩ := hn1.k.form
    obtain ⟨mo, mc, ev, -, -, -, -⟩ := hn1.v.form
    have HQ := Lib.hid (bytesEqual_any n.kv (.slice ko key.length kc) n.x.1 key (w1.alloc (.cells #[.pointer (some ⟨behB hd L pos 0, 0, none⟩), .pointer (some ⟨behB hd L pos 1, 0, none⟩), .pointer (some ⟨behB hd L pos 2, 0, none⟩), .pointer (some ⟨behB hd L pos 3, 0, none⟩), .pointer (some ⟨behB hd L pos 4, 0, none⟩), .pointer (some ⟨behB hd L pos 5, 0, none⟩), .pointer (some ⟨behB hd L pos 6, 0, none⟩), .pointer (some ⟨behB hd L pos 7, 0, none⟩), .pointer (some ⟨behB hd L pos 8, 0, none⟩), .pointer (some ⟨behB hd L pos 9, 0, none⟩), .pointer (some ⟨behB hd L pos 10, 0, none⟩), .pointer (some ⟨behB hd L pos 11, 0, none⟩)] 63)) (hn1.k.isB.alloc _) ((HK.out.below HB1.out).alloc _))
    have HO := Lib.hid (own_any n.kv n.vv n.x (w1.alloc (.cells #[.pointer (some ⟨behB hd L pos 0, 0, none⟩), .pointer (some ⟨behB hd L pos 1, 0, none⟩), .pointer (some ⟨behB hd L pos 2, 0, none⟩), .pointer (some ⟨behB hd L pos 3, 0, none⟩), .pointer (some ⟨behB hd L pos 4, 0, none⟩), .pointer (some ⟨behB hd L pos 5, 0, none⟩), .pointer (some ⟨behB hd L pos 6, 0, none⟩), .pointer (some ⟨behB hd L pos 7, 0, none⟩), .pointer (some ⟨behB hd L pos 8, 0, none⟩), .pointer (some ⟨behB hd L pos 9, 0, none⟩), .pointer (some ⟨behB hd L pos 10, 0, none⟩), .pointer (some ⟨behB hd L pos 11, 0, none⟩)] 63)) (hn1.k.isB.alloc _) (hn1.v.isB.alloc _) hn1.sh)
    rw [ek, ev] at HO
    rw [ek] at n0 HQ
    rw [ev] at n3
    clear hn hn1 ek ev
    by_cases hq : n.x.1 = key
    · have HE : Hid (getE (L.map (·.x)) pos key = (n.x, true)) := Lib.hid (by unfold getE; rw [List.getElem?_map, hx]; simp only [Option.map_some, if_pos hq])
      rw [decide_eq_true hq] at HQ
      clear hx hq
      go_wp2_with fail
      refine HQ.out.mono ?_
      rintro e w2 ⟨rfl, rfl⟩
      go_wp2_with fail
      refine HO.out.mono ?_
      unfold OwnP
      rintro e w3 ⟨kv3, vv3, rfl, k3, v3, hb3⟩
      have K3 := Lib.hid k3
      have V3 := Lib.hid v3
      obtain ⟨ko3, kc3, rfl, -, -, -, -⟩ := k3.form
      obtain ⟨vo3, vc3, rfl, -, -, -, -⟩ := v3.form
      have e0 : w3.cell? ⟨w.heap.size, 0, none⟩ = some (.slice none 0 0) := (hb3.cell (p := ⟨w.heap.size, 0, none⟩) (by simp <;> omega)).trans (by first | (go_simp; done) | (rw [World.cell?_setCell_other (by simp)]; assumption) | exact World.cell?_setCell_same' _ _ _ (by simp [*]))
      have ef0 : w3.frozen? ⟨w.heap.size, 0, none⟩ = false := (hb3.frozen (p := ⟨w.heap.size, 0, none⟩) (by simp <;> omega)).trans (by first | (go_simp; done) | (rw [World.frozen?_setCell]; assumption))
      have e1 : w3.cell? ⟨w.heap.size, 1, none⟩ = some (.int .u64 0) := (hb3.cell (p := ⟨w.heap.size, 1, none⟩) (by simp <;> omega)).trans (by first | (go_simp; done) | (rw [World.cell?_setCell_other (by simp)]; assumption) | exact World.cell?_setCell_same' _ _ _ (by simp [*]))
      have ef1 : w3.frozen? ⟨w.heap.size, 1, none⟩ = false := (hb3.frozen (p := ⟨w.heap.size, 1, none⟩) (by simp <;> omega)).trans (by first | (go_simp; done) | (rw [World.frozen?_setCell]; assumption))
      have e2 : w3.cell? ⟨w.heap.size, 2, none⟩ = some (.bool false) := (hb3.cell (p := ⟨w.heap.size, 2, none⟩) (by simp <;> omega)).trans (by first | (go_simp; done) | (rw [World.cell?_setCell_other (by simp)]; assumption) | exact World.cell?_setCell_same' _ _ _ (by simp [*]))
      have ef2 : w3.frozen? ⟨w.heap.size, 2, none⟩ = false := (hb3.frozen (p := ⟨w.heap.size, 2, none⟩) (by simp <;> omega)).trans (by first | (go_simp; done) | (rw [World.frozen?_setCell]; assumption))
      have e3 : w3.cell? ⟨w.heap.size, 3, none⟩ = some (.slice none 0 0) := (hb3.cell (p := ⟨w.heap.size, 3, none⟩) (by simp <;> omega)).trans (by first | (go_simp; done) | (rw [World.cell?_setCell_other (by simp)]; assumption) | exact World.cell?_setCell_same' _ _ _ (by simp [*]))
      have ef3 : w3.frozen? ⟨w.heap.size, 3, none⟩ = false := (hb3.frozen (p := ⟨w.heap.size, 3, none⟩) (by simp <;> omega)).trans (by first | (go_simp; done) | (rw [World.frozen?_setCell]; assumption))
      have HB3 : Hid (Below w.heap.size w w3) := Lib.hid (bel_call (bel_alloc HB1.out _) hb3)
      have X1 : Hid (∀ w', Chg (fun b => b = w.heap.size) w3 w' → OwnS w' w.heap.size 5 (.slice ko3 n.x.1.length kc3) n.x.1) := Lib.hid fun w' c => (c.ownS K3.out (fun b hb h => by have := (K3.out.lt _ hb).1; simp at this; omega)).mono (by simp; omega)
      have X2 : Hid (∀ w', Chg (fun b => b = w.heap.size) w3 w' → OwnS w' w.heap.size 5 (.slice vo3 n.x.2.2.2.length vc3) n.x.2.2.2) := Lib.hid fun w' c => (c.ownS V3.out (fun b hb h => by have := (V3.out.lt _ hb).1; simp at this; omega)).mono (by simp; omega)
      have X3 : Hid (∀ w', Chg (fun b => b = w.heap.size) w3 w' → Below w.heap.size w w') := Lib.hid fun w' c => HB3.out.trans (c.below HB3.out.size fun b hb h => by omega)
      have X0 : Hid (Chg (fun b => b = w.heap.size) w3 w3) := Lib.hid (Chg.refl _ _)
      clear k3 v3 hb3 HO HQ HC HK HT HB3 HB1 K3 V3
      go_wp2_with fail
      rw [HE.out]
      have X : Chg (fun b => b = w.heap.size) w3 _ := (((X0.out.set (p := ⟨w.heap.size, 0, none⟩) (fun _ => rfl) (.slice ko3 n.x.1.length kc3)).set (p := ⟨w.heap.size, 1, none⟩) (fun _ => rfl) (.int .u64 n.x.2.1)).set (p := ⟨w.heap.size, 2, none⟩) (fun _ => rfl) (.bool n.x.2.2.1)).set (p := ⟨w.heap.size, 3, none⟩) (fun _ => rfl) (.slice vo3 n.x.2.2.2.length vc3)
      exact bodyPost_ret (v := .tuple #[.agg #[.slice ko3 n.x.1.length kc3, .int .u64 n.x.2.1, .bool n.x.2.2.1, .slice vo3 n.x.2.2.2.length vc3], .bool true]) (by simp [results, Try.results9, go_sem]; go_simp) rfl ⟨_, _, rfl, X1.out _ X, X2.out _ X, X3.out _ X⟩
    · have HE : Hid (getE (L.map (·.x)) pos key = (zeroE, false)) := Lib.hid (by unfold getE; rw [List.getElem?_map, hx]; simp only [Option.map_some, if_neg hq])
      rw [decide_eq_false hq] at HQ
      clear hx hq HO
      go_wp2_with fail
      refine HQ.out.mono ?_
      rintro e w2 ⟨rfl, rfl⟩
      go_wp2_with fail
      rw [HE.out]
      refine bodyPost_ret (v := .tuple #[.agg #[.slice none 0 0, .int .u64 0, .bool false, .slice none 0 0], .bool false]) (by simp [results, Try.results9, go_sem]; go_simp) rfl ⟨_, _, rfl, ownS_nil, ownS_nil, ?_⟩
      have hB := HB1.out
      exact (by repeat' (first | (with_reducible exact Below.refl _ _) | (with_reducible assumption) | (with_reducible refine Below.drew ?_) | (with_reducible refine below_drewN ?_ _) | (with_reducible refine bel_alloc ?_ _) | (with_reducible refine Below.setCell ?_ ?_ _) | (with_reducible refine bel_call ?_ (by assumption)) | (simp <;> omega)))
end Mt
end Go.Proofs.Ytgkgfghmpimaoaa
