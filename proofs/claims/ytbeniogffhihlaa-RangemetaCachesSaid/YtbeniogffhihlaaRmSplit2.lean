/- rangemeta: a table of the call's own; Split. -/
import Derived.Test.YtbeniogffhihlaaRmRepl
import Derived.Test.YtbeniogffhihlaaOwnL
import Derived.Test.YtbeniogffhihlaaEq
import Derived.Test.YtbeniogffhihlaaRegL
set_option linter.unusedVariables false
set_option linter.unusedSimpArgs false
namespace Go.Proofs.Ytbeniogffhihlaa
open Go.RowKit
namespace Rm
abbrev RV : Type := RangeD × Value × Value
def cells4 (r : RV) : List Value := [.int .i64 r.1.1, r.2.1, r.2.2, .int .i64 r.1.2.2.2]
theorem cells4_len (r : RV) : (cells4 r).length = 4 := rfl
def GoodV (w : World) (base : Nat) (r : RV) : Prop := OwnS w base 5 r.2.1 r.1.2.1 ∧ OwnS w base 5 r.2.2 r.1.2.2.1 ∧ I64 r.1.1 ∧ I64 r.1.2.2.2
/-- a slice of ranges of the call's own, their bytes too -/
def OwnRgs (w : World) (base : Nat) (v : Value) (l : List RangeD) : Prop := ∃ rs : List RV, rs.map (·.1) = l ∧ w.ownsRow base 39 4 v l.length (rs.flatMap cells4) ∧ ∀ r ∈ rs, GoodV w base r
theorem GoodV.isB {w : World} {base : Nat} {r : RV} (h : GoodV w base r) : IsB w r.2.1 r.1.2.1 ∧ IsB w r.2.2 r.1.2.2.1 := ⟨h.1.isB, h.2.1.isB⟩
theorem OwnRgs.isRgs {w : World} {base : Nat} {v : Value} {l : List RangeD} (h : OwnRgs w base v l) : IsRgs w v l := by
  obtain ⟨rs, rfl, ho, hg⟩ := h
  obtain ⟨ao, cap, rfl, h1, h2, h3, h4⟩ := own_form ho
  refine ⟨ao, cap, rfl, h1, by unfold maxLen; omega, fun hn => ⟨List.eq_nil_of_length_eq_zero (h3 hn).1, (h3 hn).2⟩, fun i x hx => ?_⟩
  rw [List.getElem?_map, Option.map_eq_some_iff] at hx
  obtain ⟨r, hr, rfl⟩ := hx
  have hrm := List.mem_of_getElem? hr
  have hc : ∀ j u, (cells4 r)[j]? = some u → (rs.flatMap cells4)[i * 4 + j]? = some u := fun j u hu => by
    rw [flat_get cells4_len rs i j r hr (by have := (List.getElem?_eq_some_iff.1 hu).1; rwa [cells4_len] at this)]; exact hu
  obtain ⟨g, hao, hbg, hgl, hcell⟩ := own_cell ho (hc 0 _ rfl)
  subst hao
  refine ⟨g, 0, cells4 r, rfl, hgl, rfl, fun j u hu => ?_, r.2.1, r.2.2, rfl, (hg r hrm).isB.1, (hg r hrm).isB.2, (hg r hrm).2.2⟩
  rw [Nat.zero_add]
  exact own_cell' ho (hc j u hu)
theorem GoodV.chg {S : Nat → Prop} {w w1 : World} {base : Nat} {r : RV} (h : GoodV w base r) (k : Chg S w w1) (hS : ∀ b cur, w.heap[b]? = some (.cells cur 5 (0, 0)) → ¬ S b) : GoodV w1 base r :=
  ⟨k.ownS h.1 (fun b hb => by obtain ⟨c, hc⟩ := h.1.typed b hb; exact hS b c hc), k.ownS h.2.1 (fun b hb => by obtain ⟨c, hc⟩ := h.2.1.typed b hb; exact hS b c hc), h.2.2⟩
theorem OwnRgs.chg {S : Nat → Prop} {w w1 : World} {base : Nat} {v : Value} {l : List RangeD} (h : OwnRgs w base v l) (k : Chg S w w1) (hv : ∀ b, v.ownBlock = some b → ¬ S b) (hS : ∀ b cur, w.heap[b]? = some (.cells cur 5 (0, 0)) → ¬ S b) : OwnRgs w1 base v l := by
  obtain ⟨rs, rfl, ho, hg⟩ := h
  exact ⟨rs, rfl, k.own ho hv, fun r hr => (hg r hr).chg k hS⟩
theorem OwnRgs.below {w w1 : World} {base : Nat} {v : Value} {l : List RangeD} (h : OwnRgs w base v l) (k : Below w.heap.size w w1) : OwnRgs w1 base v l :=
  h.chg (S := fun _ => False) (.of_ext k) (fun _ _ h => h) (fun _ _ _ h => h)
theorem OwnRgs.slice {w : World} {base : Nat} {v : Value} {l : List RangeD} (h : OwnRgs w base v l) (hl : l ≠ []) : ∃ g cap, v = .slice (some ⟨g, 0, none⟩) l.length cap := by
  obtain ⟨rs, -, ho, -⟩ := h
  exact own_nonzero ho (fun h0 => hl (List.eq_nil_of_length_eq_zero h0))
theorem OwnRgs.at_ {w : World} {base g n cap k : Nat} {l : List RangeD} {r : RangeD} (h : OwnRgs w base (.slice (some ⟨g, 0, none⟩) n cap) l) (hr : l[k]? = some r) :
    ∃ fv tv, w.cell? ⟨g, k * 4, none⟩ = some (.int .i64 r.1) ∧ w.cell? ⟨g, k * 4 + 1, none⟩ = some fv ∧ w.cell? ⟨g, k * 4 + 2, none⟩ = some tv ∧ w.cell? ⟨g, k * 4 + 3, none⟩ = some (.int .i64 r.2.2.2) ∧ OwnS w base 5 fv r.2.1 ∧ OwnS w base 5 tv r.2.2.1 ∧ base ≤ g ∧ g < w.heap.size := by
  obtain ⟨rs, rfl, ho, hg⟩ := h
  rw [List.getElem?_map, Option.map_eq_some_iff] at hr
  obtain ⟨s, hs, rfl⟩ := hr
  have hc : ∀ j u, (cells4 s)[j]? = some u → (rs.flatMap cells4)[k * 4 + j]? = some u := fun j u hu => by
    rw [flat_get cells4_len rs k j s hs (by have := (List.getElem?_eq_some_iff.1 hu).1; rwa [cells4_len] at this)]; exact hu
  have hn : n = (rs.map (·.1)).length := by
    rcases ho.2 with ⟨hv, -⟩ | ⟨_, _, _, hv, -⟩
    · cases hv
    · simp only [Value.slice.injEq] at hv; exact hv.2.1
  subst hn
  obtain ⟨h1, h2, -⟩ := hg s (List.mem_of_getElem? hs)
  exact ⟨s.2.1, s.2.2, own_cell' ho (hc 0 _ rfl), own_cell' ho (hc 1 _ rfl), own_cell' ho (hc 2 _ rfl), own_cell' ho (hc 3 _ rfl), h1, h2, own_lt ho⟩
/-- what may be in a table -/
def Fair (x : RangeD) : Prop := x.2.1.length ≤ 110 ∧ x.2.2.1.length ≤ 110 ∧ 1 ≤ x.2.2.2 ∧ x.2.2.2 ≤ 9007199254740991
def splitL (l : List RangeD) (k : Nat) (r : RangeD) (id other : Int) (key : List Int) : List RangeD :=
  l.take k ++ [(id, r.2.1, key, r.2.2.2 + 1), (other, key, r.2.2.1, r.2.2.2 + 1)] ++ l.drop (k + 1)
/-- what Split answers: nothing named so; a wrong key or number; full; 0 -/
def splitE (l : List RangeD) (id other : Int) (key : List Int) : Int :=
  if idxF (fun x => x.1 == id) l < 0 then 151 else
  let r := l.getD (idxF (fun x => x.1 == id) l).toNat zeroR
  if 110 < key.length then 150 else if holdsB (r.2.1, r.2.2.1) key = false then 150 else if key = r.2.1 then 150 else if other < 1 then 150 else if 255 < other then 150 else if 0 ≤ idxF (fun x => x.1 == other) l then 150
  else if 32 ≤ l.length then 152 else if r.2.2.2 = 9007199254740991 then 152 else 0
theorem splitE_at {l : List RangeD} {id other : Int} {key : List Int} {k : Nat} {r : RangeD} (h : idxF (fun x => x.1 == id) l = (k : Int)) (hr : l[k]? = some r) :
    splitE l id other key = (if 110 < key.length then 150 else if holdsB (r.2.1, r.2.2.1) key = false then 150 else if key = r.2.1 then 150 else if other < 1 then 150 else if 255 < other then 150 else if 0 ≤ idxF (fun x => x.1 == other) l then 150
      else if 32 ≤ l.length then 152 else if r.2.2.2 = 9007199254740991 then 152 else 0) := by
  unfold splitE
  rw [h, if_neg (by omega)]
  have e : l.getD ((k : Int)).toNat zeroR = r := by rw [Int.toNat_natCast, List.getD_eq_getElem?_getD, hr]; rfl
  simp only [e]
def splitR (l : List RangeD) (id other : Int) (key : List Int) : List RangeD :=
  if splitE l id other key = 0 then splitL l (idxF (fun x => x.1 == id) l).toNat (l.getD (idxF (fun x => x.1 == id) l).toNat zeroR) id other key else l
def SplitP (base tb : Nat) (v : Value) (c : Int) (l' : List RangeD) (w : World) (e : Ending) (w' : World) : Prop :=
  e = .returned (.int .i64 c) ∧ ∃ v', w'.heap[tb]? = some (.cells #[v'] 80 (0, 0)) ∧ OwnRgs w' base v' l' ∧ Chg (fun b => b = tb ∨ v.ownBlock = some b) w w' ∧ (v'.ownBlock = v.ownBlock ∨ ∃ b, v'.ownBlock = some b ∧ w.heap.size ≤ b)
theorem splitP_same {base tb : Nat} {v : Value} {c : Int} {l : List RangeD} {w w' : World} (ht : w.heap[tb]? = some (.cells #[v] 80 (0, 0))) (h : OwnRgs w base v l) (hb : Below w.heap.size w w') : SplitP base tb v c l w (.returned (.int .i64 c)) w' :=
  ⟨rfl, v, (hb.block tb (Array.getElem?_eq_some_iff.1 ht).1).trans ht, h.below hb, .of_ext hb, .inl rfl⟩
theorem cells4_one {w : World} {base : Nat} {s : RV} (h : GoodV w base s) : ∀ u ∈ cells4 s, u.oneCell' = true := by
  intro u hu
  obtain ⟨o1, c1, e1, -⟩ := h.1.form
  obtain ⟨o2, c2, e2, -⟩ := h.2.1.form
  simp only [cells4, List.mem_cons, List.not_mem_nil, or_false] at hu
  rcases hu with rfl | rfl | rfl | rfl
  · rfl
  · rw [e1]; rfl
  · rw [e2]; rfl
  · rfl
theorem lt_alloc2 (w : World) (o p : Obj) : w.heap.size < ((w.alloc o).alloc p).heap.size := by simp; omega
theorem heap_new2 (w : World) (o p : Obj) : ((w.alloc o).alloc p).drew.heap[w.heap.size + 1]? = some p := by
  have h := heap_alloc_new (w.alloc o) p
  have e : (w.alloc o).heap.size = w.heap.size + 1 := by simp
  rw [e] at h
  exact h
theorem replace_any' (base g i n cap h : Nat) (xs news : List Value) (fr : Nat × Nat) (w : World) (hown : w.ownsRow base 39 4 (.slice (some ⟨g, 0, none⟩) n cap) n xs) (hi : i < n) (hnn : n ≤ 1000)
    (hnl : news.length = 8) (hhb : w.heap[h]? = some (.cells news.toArray 39 fr)) (hgh : g ≠ h) (hx1 : ∀ u ∈ xs, u.oneCell' = true) (h1 : ∀ u ∈ news, u.oneCell' = true) (hbase : base ≤ w.heap.size) :
    Calls Try.prog 47 #[.slice (some ⟨g, 0, none⟩) n cap, .int .i64 i, .int .i64 ((i : Int) + 1), .slice (some ⟨h, 0, none⟩) 2 2] w (ReplP base n i (.slice (some ⟨g, 0, none⟩) n cap) xs news w) :=
  replace_any base g i n cap h xs news fr w hown hi hnn hnl hhb hgh hx1 h1 hbase
set_option maxRecDepth 100000 in
set_option maxHeartbeats 8000000 in
theorem split_any (base tb : Nat) (v kv : Value) (l : List RangeD) (id other : Int) (key : List Int) (w : World) (htb : base ≤ tb) (ht : w.heap[tb]? = some (.cells #[v] 80 (0, 0))) (h : OwnRgs w base v l) (hne : l ≠ []) (hn : l.length ≤ 32) (hf : ∀ x ∈ l, Fair x)
    (hk : IsB w kv key) (hid : I64 id) (hoth : I64 other) (_hbase : base ≤ w.heap.size) :
    Calls Try.prog 13 #[.pointer (some ⟨tb, 0, none⟩), .int .i64 id, kv, .int .i64 other] w (SplitP base tb v (splitE l id other key) (splitR l id other key) w) := by
  have hmf : ∀ (fn : Fn) (first cap : Array Value) (w : World), (Instr.makeFunc fn first cap).run Try.prog w = .ok (.func fn first cap) w := fun _ _ _ _ => rfl
  obtain ⟨g, cap, rfl⟩ := h.slice hne
  obtain ⟨ko, kc, rfl, -, -, -⟩ := hk.form
  have hkm := hk.max
  have HR := Lib.hid h.isRgs
  have H := Lib.hid h
  have HT := Lib.hid ht
  have HK := Lib.hid hk
  have HF := Lib.hid hf
  have htl := (Array.getElem?_eq_some_iff.1 ht).1
  have T0 := Lib.hid (show w.cell? ⟨tb, 0, none⟩ = some (.slice (some ⟨g, 0, none⟩) l.length cap) by rw [cell_of_row w tb 0 _ _ _ ht]; rfl)
  have T0f := Lib.hid (show w.frozen? ⟨tb, 0, none⟩ = false by simp [World.frozen?, ht])
  have W0 := (Below.refl w.heap.size w).alloc (Nat.le_refl _) (.cells #[.pointer (some ⟨tb, 0, none⟩)] 27)
  have HN := Lib.hid (named_any w.heap.size tb id _ l _ (show (w.alloc (.cells #[.pointer (some ⟨tb, 0, none⟩)] 27)).cell? ⟨w.heap.size, 0, none⟩ = some (.pointer (some ⟨tb, 0, none⟩)) by go_simp) ((W0.cell (p := ⟨tb, 0, none⟩) htl).trans T0.out) (by simp) (by simp; omega) (HR.out.below rgR_stays W0))
  clear h ht hk hf W0
  have hcase := idx_find (p := fun x => x.1 == id) (l := l)
  generalize hix : idxF (fun x => x.1 == id) l = ix at *
  have HIX := Lib.hid hix
  clear hix
  go_enter Try.func13, Try.ntmps13
  go_wp2_with fail
  refine HN.out.mono ?_
  rintro e w1 ⟨rfl, hb⟩
  rcases hcase with ⟨rfl, hnone⟩ | ⟨k, r, rfl, hkl, hrk, -⟩
  · have GW : Hid (Below w.heap.size w w1) := Lib.hid (bel_call (by repeat' (first | (with_reducible exact Below.refl _ _) | (with_reducible assumption) | (with_reducible refine Below.drew ?_) | (with_reducible refine below_drewN ?_ _) | (with_reducible refine bel_alloc ?_ _) | (with_reducible refine Below.setCell ?_ ?_ _) | (with_reducible refine bel_call ?_ (by assumption)) | (simp <;> omega))) hb)
    have HE : Hid (splitE l id other key = 151 ∧ splitR l id other key = l) := Lib.hid (by
      have e1 : splitE l id other key = 151 := by unfold splitE; rw [HIX.out]; rfl
      exact ⟨e1, by unfold splitR; rw [e1]; rfl⟩)
    clear hb hnone
    go_wp2_with fail
    go_ret
    rw [HE.out.1, HE.out.2]
    exact splitP_same HT.out H.out GW.out
  · have GW : Hid (Below w.heap.size w w1) := Lib.hid (bel_call (by repeat' (first | (with_reducible exact Below.refl _ _) | (with_reducible assumption) | (with_reducible refine Below.drew ?_) | (with_reducible refine below_drewN ?_ _) | (with_reducible refine bel_alloc ?_ _) | (with_reducible refine Below.setCell ?_ ?_ _) | (with_reducible refine bel_call ?_ (by assumption)) | (simp <;> omega))) hb)
    have HE : Hid (splitE l id other key = _) := Lib.hid (splitE_at (other := other) (key := key) HIX.out hrk)
    have HSAME : Hid (∀ c w', c ≠ 0 → splitE l id other key = c → Below w.heap.size w w' → SplitP base tb (.slice (some ⟨g, 0, none⟩) l.length cap) (splitE l id other key) (splitR l id other key) w (.returned (.int .i64 c)) w') := Lib.hid (fun c w' hc he hb => by
      have e1 : splitR l id other key = l := by unfold splitR; rw [he, if_neg hc]
      rw [he, e1]
      exact splitP_same HT.out H.out hb)
    obtain ⟨fv, tv, c0', c1', c2', c3', hfv', htv', hbg, hgl⟩ := H.out.at_ hrk
    have C0 := Lib.hid c0'; have C1 := Lib.hid c1'; have C2 := Lib.hid c2'; have C3 := Lib.hid c3'; have HFV := Lib.hid hfv'; have HTV := Lib.hid htv'
    have HRK := Lib.hid hrk
    obtain ⟨fo, fc, rfl, -, -, -⟩ := hfv'.isB.form
    obtain ⟨to, tc, rfl, -, -, -⟩ := htv'.isB.form
    have fair := HF.out r (List.mem_of_getElem? hrk)
    obtain ⟨ff1, ff2, ff3, ff4⟩ := fair
    have k0 : (k : Int) < l.length := by omega
    have k1 : (0 : Int) ≤ k := by omega
    have k2 : ¬ (k : Int) < 0 := by omega
    clear c0' c1' c2' c3' hfv' htv' hrk
    by_cases a1 : 110 < key.length
    · have e1 : decide ((110 : Int) < (key.length : Int)) = true := decide_eq_true (by omega)
      have HX : Hid (splitE l id other key = 150) := Lib.hid (by rw [HE.out, if_pos a1])
      clear HE hb a1
      go_wp2_with fail
      go_ret
      exact HSAME.out 150 _ (by decide) HX.out GW.out
    have e1 : decide ((110 : Int) < (key.length : Int)) = false := decide_eq_false (by omega)
    have ak : key.length ≤ 140737488355328 := by omega
    replace HE := HE.out
    rw [if_neg a1] at HE
    replace HE := Lib.hid HE
    have z1 := GW.out.size
    have b0 : w1.cell? ⟨w.heap.size, 0, none⟩ = some (.pointer (some ⟨tb, 0, none⟩)) := (hb.cell (p := ⟨w.heap.size, 0, none⟩) (by simp)).trans (by go_simp)
    have zb : w.heap.size < w1.heap.size := by have := hb.size; simp at this; omega
    have t0 := (GW.out.cell (p := ⟨tb, 0, none⟩) htl).trans T0.out
    have c1 := (GW.out.cell (p := ⟨g, k * 4 + 1, none⟩) hgl).trans C1.out
    have c2 := (GW.out.cell (p := ⟨g, k * 4 + 2, none⟩) hgl).trans C2.out
    have HH := Lib.hid (holds_any _ _ _ r.2.1 r.2.2.1 key w1 (HFV.out.below GW.out).isB (HTV.out.below GW.out).isB (HK.out.below GW.out))
    clear hb a1
    go_wp2_with fail
    refine HH.out.mono ?_
    rintro e w2 ⟨rfl, hb⟩
    replace GW : Hid (Below w.heap.size w w2) := Lib.hid (bel_call GW.out hb)
    have z2 := hb.size
    replace b0 := (hb.cell (p := ⟨w.heap.size, 0, none⟩) zb).trans b0
    replace t0 := (GW.out.cell (p := ⟨tb, 0, none⟩) htl).trans T0.out
    replace c1 := (GW.out.cell (p := ⟨g, k * 4 + 1, none⟩) hgl).trans C1.out
    replace zb : w.heap.size < w2.heap.size := by omega
    have HEQ := Lib.hid (bytesEqual_any _ _ key r.2.1 w2 (HK.out.below GW.out) (HFV.out.below GW.out).isB)
    clear hb HH c2 e1
    cases ah : holdsB (r.2.1, r.2.2.1) key
    · have HA := Lib.hid ah
      clear ah
      have HX : Hid (splitE l id other key = 150) := Lib.hid (by rw [HE.out, if_pos HA.out])
      clear HE
      go_wp2_with fail
      go_ret
      exact HSAME.out 150 _ (by decide) HX.out GW.out
    have HA := Lib.hid ah
    replace HE := HE.out
    rw [if_neg (by rw [ah]; decide)] at HE
    replace HE := Lib.hid HE
    clear ah
    by_cases a3 : key = r.2.1
    · rw [decide_eq_true a3] at HEQ
      have HA3 := Lib.hid a3
      clear a3
      have HX : Hid (splitE l id other key = 150) := Lib.hid (by rw [HE.out, if_pos HA3.out])
      clear HE
      go_wp2_with fail
      refine HEQ.out.mono ?_
      rintro e w3 ⟨rfl, rfl⟩
      go_wp2_with fail
      go_ret
      exact HSAME.out 150 _ (by decide) HX.out GW.out
    rw [decide_eq_false a3] at HEQ
    replace HE := HE.out
    rw [if_neg a3] at HE
    replace HE := Lib.hid HE
    clear a3
    by_cases a4 : other < 1
    · have e4 : decide (other < 1) = true := decide_eq_true a4
      have HX : Hid (splitE l id other key = 150) := Lib.hid (by rw [HE.out, if_pos a4])
      clear HE a4
      go_wp2_with fail
      refine HEQ.out.mono ?_
      rintro e w3 ⟨rfl, rfl⟩
      go_wp2_with fail
      go_ret
      exact HSAME.out 150 _ (by decide) HX.out GW.out
    have e4 : decide (other < 1) = false := decide_eq_false a4
    replace HE := HE.out
    rw [if_neg a4] at HE
    replace HE := Lib.hid HE
    by_cases a5 : 255 < other
    · have e5 : decide (255 < other) = true := decide_eq_true a5
      have HX : Hid (splitE l id other key = 150) := Lib.hid (by rw [HE.out, if_pos a5])
      clear HE a4 a5
      go_wp2_with fail
      refine HEQ.out.mono ?_
      rintro e w3 ⟨rfl, rfl⟩
      go_wp2_with fail
      go_ret
      exact HSAME.out 150 _ (by decide) HX.out GW.out
    have e5 : decide (255 < other) = false := decide_eq_false a5
    replace HE := HE.out
    rw [if_neg a5] at HE
    replace HE := Lib.hid HE
    clear a4 a5
    have HN2 := Lib.hid (named_any w.heap.size tb other _ l w2 b0 t0 zb (by omega) (HR.out.below rgR_stays GW.out))
    have hcase := idx_find (p := fun x => x.1 == other) (l := l)
    generalize hiy : idxF (fun x => x.1 == other) l = iy at *
    have HIY := Lib.hid hiy
    clear hiy
    have iyb : iy = -1 ∨ 0 ≤ iy := by rcases hcase with ⟨h, -⟩ | ⟨_, _, h, -⟩ <;> omega
    clear hcase
    go_wp2_with fail
    refine HEQ.out.mono ?_
    rintro e w3 ⟨rfl, rfl⟩
    go_wp2_with fail
    refine HN2.out.mono ?_
    rintro e w3 ⟨rfl, hb⟩
    replace GW : Hid (Below w.heap.size w w3) := Lib.hid (bel_call GW.out hb)
    have z3 := hb.size
    replace b0 := (hb.cell (p := ⟨w.heap.size, 0, none⟩) zb).trans b0
    replace t0 := (GW.out.cell (p := ⟨tb, 0, none⟩) htl).trans T0.out
    replace c1 := (GW.out.cell (p := ⟨g, k * 4 + 1, none⟩) hgl).trans C1.out
    have c3 := (GW.out.cell (p := ⟨g, k * 4 + 3, none⟩) hgl).trans C3.out
    replace zb : w.heap.size < w3.heap.size := by omega
    clear hb HN2 HEQ
    by_cases a6 : 0 ≤ iy
    · have e6 : decide (0 ≤ iy) = true := decide_eq_true a6
      have HX : Hid (splitE l id other key = 150) := Lib.hid (by rw [HE.out, if_pos a6])
      clear HE a6 iyb
      go_wp2_with fail
      go_ret
      exact HSAME.out 150 _ (by decide) HX.out GW.out
    have e6 : decide (0 ≤ iy) = false := decide_eq_false (by omega)
    replace HE := HE.out
    rw [if_neg a6] at HE
    replace HE := Lib.hid HE
    clear a6 iyb
    by_cases a7 : 32 ≤ l.length
    · have e7 : decide ((32 : Int) ≤ (l.length : Int)) = true := decide_eq_true (by omega)
      have HX : Hid (splitE l id other key = 152) := Lib.hid (by rw [HE.out, if_pos a7])
      clear HE a7
      go_wp2_with fail
      go_ret
      exact HSAME.out 152 _ (by decide) HX.out GW.out
    have e7 : decide ((32 : Int) ≤ (l.length : Int)) = false := decide_eq_false (by omega)
    replace HE := HE.out
    rw [if_neg a7] at HE
    replace HE := Lib.hid HE
    by_cases a8 : r.2.2.2 = 9007199254740991
    · have e8 : (r.2.2.2 == 9007199254740991) = true := beq_iff_eq.2 a8
      have HX : Hid (splitE l id other key = 152) := Lib.hid (by rw [HE.out, if_pos a8])
      clear HE a8 a7
      go_wp2_with fail
      go_ret
      exact HSAME.out 152 _ (by decide) HX.out GW.out
    have e8 : (r.2.2.2 == 9007199254740991) = false := beq_eq_false_iff_ne.2 a8
    replace HE := HE.out
    rw [if_neg a8] at HE
    replace HE := Lib.hid HE
    have HOK : Hid (splitR l id other key = splitL l k r id other key) := Lib.hid (by
      unfold splitR
      rw [HE.out, if_pos rfl, HIX.out, Int.toNat_natCast, List.getD_eq_getElem?_getD, HRK.out]
      rfl)
    have c0 := (GW.out.cell (p := ⟨g, k * 4, none⟩) hgl).trans C0.out
    have c2 := (GW.out.cell (p := ⟨g, k * 4 + 2, none⟩) hgl).trans C2.out
    have hw1 := IntWalk.i64_in (r.2.2.2 + 1) (by omega)
    clear a7 a8
    go_wp2_with fail
    refine (copied_any _ _ r.2.1 key _ ((HFV.out.below GW.out).isB.alloc _) ((HK.out.below GW.out).alloc _) (by omega) ak).mono ?_
    unfold CopiedP
    rintro e w4 ⟨v1, v2, rfl, h1, h2, hb⟩
    replace k0 : w4.cell? ⟨w3.heap.size, 0, none⟩ = some (.int .i64 r.1) := (hb.cell (p := ⟨w3.heap.size, 0, none⟩) (by simp <;> omega)).trans (by go_simp); replace k0f : w4.frozen? ⟨w3.heap.size, 0, none⟩ = false := (hb.frozen (p := ⟨w3.heap.size, 0, none⟩) (by simp <;> omega)).trans (by go_simp); replace k1 : w4.cell? ⟨w3.heap.size, 1, none⟩ = some (.slice fo r.2.1.length fc) := (hb.cell (p := ⟨w3.heap.size, 1, none⟩) (by simp <;> omega)).trans (by go_simp); replace k1f : w4.frozen? ⟨w3.heap.size, 1, none⟩ = false := (hb.frozen (p := ⟨w3.heap.size, 1, none⟩) (by simp <;> omega)).trans (by go_simp); replace k2 : w4.cell? ⟨w3.heap.size, 2, none⟩ = some (.slice to r.2.2.1.length tc) := (hb.cell (p := ⟨w3.heap.size, 2, none⟩) (by simp <;> omega)).trans (by go_simp); replace k2f : w4.frozen? ⟨w3.heap.size, 2, none⟩ = false := (hb.frozen (p := ⟨w3.heap.size, 2, none⟩) (by simp <;> omega)).trans (by go_simp); replace k3 : w4.cell? ⟨w3.heap.size, 3, none⟩ = some (.int .i64 r.2.2.2) := (hb.cell (p := ⟨w3.heap.size, 3, none⟩) (by simp <;> omega)).trans (by go_simp); replace k3f : w4.frozen? ⟨w3.heap.size, 3, none⟩ = false := (hb.frozen (p := ⟨w3.heap.size, 3, none⟩) (by simp <;> omega)).trans (by go_simp)
    replace b0 := (hb.cell (p := ⟨w.heap.size, 0, none⟩) (by simp; omega)).trans ((show (w3.alloc _).cell? ⟨w.heap.size, 0, none⟩ = _ from (((Below.refl _ w3).alloc (Nat.le_refl _) _).cell (p := ⟨w.heap.size, 0, none⟩) zb)).trans b0)
    have z4 : w3.heap.size < w4.heap.size := by have := hb.size; simp at this; omega
    have G4 : Hid (Below w3.heap.size w3 w4) := Lib.hid (((Below.refl _ w3).alloc (Nat.le_refl _) _).trans (hb.mono (by simp)))
    have H1 := Lib.hid h1
    have H2 := Lib.hid h2
    obtain ⟨fo1, fc1, rfl, -, -, -, -⟩ := h1.form
    obtain ⟨to1, tc1, rfl, -, -, -, -⟩ := h2.form
    have GW4 := Lib.hid (GW.out.trans (G4.out.mono GW.out.size))
    clear h1 h2 hb
    go_wp2_with fail
    refine (copied_any _ _ key r.2.2.1 _ ((HK.out.below GW4.out).alloc _) ((HTV.out.below GW4.out).isB.alloc _) ak (by omega)).mono ?_
    unfold CopiedP
    rintro e w5 ⟨v3, v4, rfl, h3, h4, hb⟩
    replace m0 : w5.cell? ⟨w4.heap.size, 0, none⟩ = some (.int .i64 id) := (hb.cell (p := ⟨w4.heap.size, 0, none⟩) (by simp <;> omega)).trans (by go_simp); replace m0f : w5.frozen? ⟨w4.heap.size, 0, none⟩ = false := (hb.frozen (p := ⟨w4.heap.size, 0, none⟩) (by simp <;> omega)).trans (by go_simp); replace m1 : w5.cell? ⟨w4.heap.size, 1, none⟩ = some (.slice fo1 r.2.1.length fc1) := (hb.cell (p := ⟨w4.heap.size, 1, none⟩) (by simp <;> omega)).trans (by go_simp); replace m1f : w5.frozen? ⟨w4.heap.size, 1, none⟩ = false := (hb.frozen (p := ⟨w4.heap.size, 1, none⟩) (by simp <;> omega)).trans (by go_simp); replace m2 : w5.cell? ⟨w4.heap.size, 2, none⟩ = some (.slice to1 key.length tc1) := (hb.cell (p := ⟨w4.heap.size, 2, none⟩) (by simp <;> omega)).trans (by go_simp); replace m2f : w5.frozen? ⟨w4.heap.size, 2, none⟩ = false := (hb.frozen (p := ⟨w4.heap.size, 2, none⟩) (by simp <;> omega)).trans (by go_simp); replace m3 : w5.cell? ⟨w4.heap.size, 3, none⟩ = some (.int .i64 (r.2.2.2 + 1)) := (hb.cell (p := ⟨w4.heap.size, 3, none⟩) (by simp <;> omega)).trans (by go_simp); replace m3f : w5.frozen? ⟨w4.heap.size, 3, none⟩ = false := (hb.frozen (p := ⟨w4.heap.size, 3, none⟩) (by simp <;> omega)).trans (by go_simp)
    replace b0 := (hb.cell (p := ⟨w.heap.size, 0, none⟩) (by simp; omega)).trans ((show (w4.alloc _).cell? ⟨w.heap.size, 0, none⟩ = _ from (((Below.refl _ w4).alloc (Nat.le_refl _) _).cell (p := ⟨w.heap.size, 0, none⟩) (by show w.heap.size < w4.heap.size; omega))).trans b0)
    have z5 : w4.heap.size < w5.heap.size := by have := hb.size; simp at this; omega
    have G5 : Hid (Below w4.heap.size w4 w5) := Lib.hid (((Below.refl _ w4).alloc (Nat.le_refl _) _).trans (hb.mono (by simp)))
    have H3 := Lib.hid h3
    have H4 := Lib.hid h4
    obtain ⟨fo2, fc2, rfl, -, -, -, -⟩ := h3.form
    obtain ⟨to2, tc2, rfl, -, -, -, -⟩ := h4.form
    have GW5 := Lib.hid (GW4.out.trans (G5.out.mono GW4.out.size))
    clear h3 h4 hb c0 c1 c2 c3 k0 k0f
    replace t0 := (GW5.out.cell (p := ⟨tb, 0, none⟩) htl).trans T0.out
    go_wp2_with fail
    have y0 : w.heap.size < w5.heap.size := by omega
    have y1 : tb < w5.heap.size := by omega
    have y2 : w4.heap.size < w5.heap.size := z5
    have y3 : tb ≠ w.heap.size := by omega
    have zf := (GW5.out.frozen (p := ⟨tb, 0, none⟩) htl).trans T0f.out
    have kw1 := IntWalk.i64_in ((k : Int) + 1) (by omega)
    obtain ⟨rs, hrs, ho, hgood⟩ := H.out
    obtain ⟨left, hleft⟩ : ∃ x : RV, x = ((id, r.2.1, key, r.2.2.2 + 1), .slice fo1 r.2.1.length fc1, .slice to1 key.length tc1) := ⟨_, rfl⟩
    obtain ⟨rest, hrest⟩ : ∃ x : RV, x = ((other, key, r.2.2.1, r.2.2.2 + 1), .slice fo2 key.length fc2, .slice to2 r.2.2.1.length tc2) := ⟨_, rfl⟩
    have y5 : w.heap.size ≠ g := by omega
    have y4 : tb ≠ g := by
      rintro rfl
      obtain ⟨cur, -, hc, -⟩ := own_row ho
      have := types_apart HT.out hc
      exact absurd this (by decide)
    have GE7 : Hid (Below w5.heap.size w5 ((w5.alloc (.cells #[.int .i64 other, .slice fo2 key.length fc2, .slice to2 r.2.2.1.length tc2, .int .i64 (r.2.2.2 + 1)] 39)).alloc (.cells #[.int .i64 id, .slice fo1 r.2.1.length fc1, .slice to1 key.length tc1, .int .i64 (r.2.2.2 + 1), .int .i64 other, .slice fo2 key.length fc2, .slice to2 r.2.2.1.length tc2, .int .i64 (r.2.2.2 + 1)] 39))) := Lib.hid (((Below.refl _ w5).alloc (Nat.le_refl _) _).alloc (by simp) _)
    have G7 : Hid (Below w.heap.size w ((w5.alloc (.cells #[.int .i64 other, .slice fo2 key.length fc2, .slice to2 r.2.2.1.length tc2, .int .i64 (r.2.2.2 + 1)] 39)).alloc (.cells #[.int .i64 id, .slice fo1 r.2.1.length fc1, .slice to1 key.length tc1, .int .i64 (r.2.2.2 + 1), .int .i64 other, .slice fo2 key.length fc2, .slice to2 r.2.2.1.length tc2, .int .i64 (r.2.2.2 + 1)] 39))) := Lib.hid (GW5.out.trans (GE7.out.mono GW5.out.size))
    have y6 : w4.heap.size ≠ g := by omega
    have y7 : w5.heap.size ≠ g := by omega
    have x5 : w5.heap.size < (((w5.alloc (.cells #[.int .i64 other, .slice fo2 key.length fc2, .slice to2 r.2.2.1.length tc2, .int .i64 (r.2.2.2 + 1)] 39)).alloc (.cells #[.int .i64 id, .slice fo1 r.2.1.length fc1, .slice to1 key.length tc1, .int .i64 (r.2.2.2 + 1), .int .i64 other, .slice fo2 key.length fc2, .slice to2 r.2.2.1.length tc2, .int .i64 (r.2.2.2 + 1)] 39))).heap.size := lt_alloc2 _ _ _
    have HREP : Hid (Calls Try.prog _ _ _ _) := Lib.hid (replace_any' base g k l.length cap (w5.heap.size + 1) (rs.flatMap cells4) (cells4 left ++ cells4 rest) (0, 0) (((w5.alloc (.cells #[.int .i64 other, .slice fo2 key.length fc2, .slice to2 r.2.2.1.length tc2, .int .i64 (r.2.2.2 + 1)] 39)).alloc (.cells #[.int .i64 id, .slice fo1 r.2.1.length fc1, .slice to1 key.length tc1, .int .i64 (r.2.2.2 + 1), .int .i64 other, .slice fo2 key.length fc2, .slice to2 r.2.2.1.length tc2, .int .i64 (r.2.2.2 + 1)] 39))).drew (own_below ho G7.out.drew) hkl (by omega) rfl
      (by rw [hleft, hrest]; exact heap_new2 _ _ _)
      (by omega) (by
        intro u hu
        obtain ⟨s, hsm, hs⟩ := List.mem_flatMap.1 hu
        exact cells4_one (hgood s hsm) u hs)
      (by
        intro u hu
        rw [hleft, hrest] at hu
        simp only [cells4, List.cons_append, List.nil_append, List.mem_cons, List.not_mem_nil, or_false] at hu
        rcases hu with rfl | rfl | rfl | rfl | rfl | rfl | rfl | rfl <;> rfl)
      (by show base ≤ (((w5.alloc (.cells #[.int .i64 other, .slice fo2 key.length fc2, .slice to2 r.2.2.1.length tc2, .int .i64 (r.2.2.2 + 1)] 39)).alloc (.cells #[.int .i64 id, .slice fo1 r.2.1.length fc1, .slice to1 key.length tc1, .int .i64 (r.2.2.2 + 1), .int .i64 other, .slice fo2 key.length fc2, .slice to2 r.2.2.1.length tc2, .int .i64 (r.2.2.2 + 1)] 39))).heap.size; have := G7.out.size; omega))
    unfold ReplP at HREP
    have HO := Lib.hid ho
    have HGOOD := Lib.hid hgood
    have HRS := Lib.hid hrs
    have HLE := Lib.hid hleft
    have HRE := Lib.hid hrest
    clear ho hgood hrs hleft hrest
    refine wp_region_L (fun w' => w'.cell? ⟨w.heap.size, 0, none⟩ = some (.pointer (some ⟨tb, 0, none⟩)) ∧ w'.cell? ⟨tb, 0, none⟩ = some (.slice (some ⟨g, 0, none⟩) l.length cap) ∧ w'.cell? ⟨w4.heap.size, 0, none⟩ = some (.int .i64 id) ∧ w'.cell? ⟨w4.heap.size, 1, none⟩ = some (.slice fo1 r.2.1.length fc1) ∧ w'.cell? ⟨w4.heap.size, 2, none⟩ = some (.slice to1 key.length tc1) ∧ w'.cell? ⟨w4.heap.size, 3, none⟩ = some (.int .i64 (r.2.2.2 + 1)) ∧ w'.cell? ⟨w5.heap.size, 0, none⟩ = some (.int .i64 other) ∧ w'.cell? ⟨w5.heap.size, 1, none⟩ = some (.slice fo2 key.length fc2) ∧ w'.cell? ⟨w5.heap.size, 2, none⟩ = some (.slice to2 r.2.2.1.length tc2) ∧ w'.cell? ⟨w5.heap.size, 3, none⟩ = some (.int .i64 (r.2.2.2 + 1))) 14 (by kernel_rfl) ?_ (fun hS9 => ?_)
    · go_keep
    refine wpAnyL_take (i := 0) rfl (by kernel_rfl) (by kernel_rfl) (by kernel_rfl) (by kernel_rfl) (by rfl) hS9 ?_; apply Exists.intro; refine ⟨fun _ _ _ h => h, fun w9 hT9 => ?_, ?_⟩
    · (try dsimp only at hT9); go_simp; first | done | with_reducible rfl | rfl
    simp only [Act.put, List.setIfInBounds_toArray, List.set_cons_succ, List.set_cons_zero]
    refine wpAnyL_take (i := 1) rfl (by kernel_rfl) (by kernel_rfl) (by kernel_rfl) (by kernel_rfl) (by rfl) hS9 ?_; apply Exists.intro; refine ⟨fun _ _ _ h => h, fun w9 hT9 => ?_, ?_⟩
    · (try dsimp only at hT9); go_simp; first | done | with_reducible rfl | rfl
    simp only [Act.put, List.setIfInBounds_toArray, List.set_cons_succ, List.set_cons_zero]
    refine wpAnyL_take (i := 2) rfl (by kernel_rfl) (by kernel_rfl) (by kernel_rfl) (by kernel_rfl) (by rfl) hS9 ?_; apply Exists.intro; refine ⟨fun _ _ _ h => h, fun w9 hT9 => ?_, ?_⟩
    · (try dsimp only at hT9); go_simp; first | done | with_reducible rfl | rfl
    simp only [Act.put, List.setIfInBounds_toArray, List.set_cons_succ, List.set_cons_zero]
    refine wpAnyL_take (i := 3) rfl (by kernel_rfl) (by kernel_rfl) (by kernel_rfl) (by kernel_rfl) (by rfl) hS9 ?_; apply Exists.intro; refine ⟨fun _ _ _ h => h, fun w9 hT9 => ?_, ?_⟩
    · (try dsimp only at hT9); go_simp; first | done | with_reducible rfl | rfl
    simp only [Act.put, List.setIfInBounds_toArray, List.set_cons_succ, List.set_cons_zero]
    refine wpAnyL_take (i := 4) rfl (by kernel_rfl) (by kernel_rfl) (by kernel_rfl) (by kernel_rfl) (by rfl) hS9 ?_; apply Exists.intro; refine ⟨fun _ _ _ h => h, fun w9 hT9 => ?_, ?_⟩
    · (try dsimp only at hT9); go_simp; first | done | with_reducible rfl | rfl
    simp only [Act.put, List.setIfInBounds_toArray, List.set_cons_succ, List.set_cons_zero]
    refine wpAnyL_take (i := 5) rfl (by kernel_rfl) (by kernel_rfl) (by kernel_rfl) (by kernel_rfl) (by rfl) hS9 ?_; apply Exists.intro; refine ⟨fun _ _ _ h => h, fun w9 hT9 => ?_, ?_⟩
    · (try dsimp only at hT9); go_simp; first | done | with_reducible rfl | rfl
    simp only [Act.put, List.setIfInBounds_toArray, List.set_cons_succ, List.set_cons_zero]
    refine wpAnyL_take (i := 6) rfl (by kernel_rfl) (by kernel_rfl) (by kernel_rfl) (by kernel_rfl) (by rfl) hS9 ?_; apply Exists.intro; refine ⟨fun _ _ _ h => h, fun w9 hT9 => ?_, ?_⟩
    · (try dsimp only at hT9); go_simp; first | done | with_reducible rfl | rfl
    simp only [Act.put, List.setIfInBounds_toArray, List.set_cons_succ, List.set_cons_zero]
    refine wpAnyL_take (i := 7) rfl (by kernel_rfl) (by kernel_rfl) (by kernel_rfl) (by kernel_rfl) (by rfl) hS9 ?_; apply Exists.intro; refine ⟨fun _ _ _ h => h, fun w9 hT9 => ?_, ?_⟩
    · (try dsimp only at hT9); go_simp; first | done | with_reducible rfl | rfl
    simp only [Act.put, List.setIfInBounds_toArray, List.set_cons_succ, List.set_cons_zero]
    refine wpAnyL_take (i := 8) rfl (by kernel_rfl) (by kernel_rfl) (by kernel_rfl) (by kernel_rfl) (by rfl) hS9 ?_; apply Exists.intro; refine ⟨fun _ _ _ h => h, fun w9 hT9 => ?_, ?_⟩
    · (try dsimp only at hT9); go_simp; first | done | with_reducible rfl | rfl
    simp only [Act.put, List.setIfInBounds_toArray, List.set_cons_succ, List.set_cons_zero]
    refine wpAnyL_take (i := 9) rfl (by kernel_rfl) (by kernel_rfl) (by kernel_rfl) (by kernel_rfl) (by rfl) hS9 ?_; apply Exists.intro; refine ⟨fun _ _ _ h => h, fun w9 hT9 => ?_, ?_⟩
    · (try dsimp only at hT9); go_simp; first | done | with_reducible rfl | rfl
    simp only [Act.put, List.setIfInBounds_toArray, List.set_cons_succ, List.set_cons_zero]
    refine wpAnyL_one (i := 10) rfl (by kernel_rfl) (fun K9 hK9 => ?_)
    go_simp
    refine hK9.out _ _ ?_ (fun hT9 => ?_)
    · (try dsimp only); (first | (go_keep; done) | (obtain ⟨s0, s1, s2, s3, s4, s5, s6, s7, s8, s9⟩ := hS9; exact ⟨(gb_cell HG6.out (Nat.lt_of_lt_of_le y0 GE7.out.size) y5).trans s0, (gb_cell HG6.out (Nat.lt_of_lt_of_le y1 GE7.out.size) y4).trans s1, (gb_cell HG6.out (Nat.lt_of_lt_of_le y2 GE7.out.size) y6).trans s2, (gb_cell HG6.out (Nat.lt_of_lt_of_le y2 GE7.out.size) y6).trans s3, (gb_cell HG6.out (Nat.lt_of_lt_of_le y2 GE7.out.size) y6).trans s4, (gb_cell HG6.out (Nat.lt_of_lt_of_le y2 GE7.out.size) y6).trans s5, (gb_cell HG6.out x5 y7).trans s6, (gb_cell HG6.out x5 y7).trans s7, (gb_cell HG6.out x5 y7).trans s8, (gb_cell HG6.out x5 y7).trans s9⟩))
    clear hK9 K9 hS9; have hS9 := hT9; clear hT9
    (try simp only [Act.put, List.setIfInBounds_toArray, List.set_cons_succ, List.set_cons_zero])
    refine wpAnyL_one (i := 11) rfl (by kernel_rfl) (fun K9 hK9 => ?_)
    go_simp; (with_reducible refine Calls.mono HREP.out ?_); rintro e w6 ⟨v6, rfl, ho6, hg6, hv6⟩; obtain ⟨ao6, cap6, rfl, -, -, -, -⟩ := own_form ho6; have HO6 := Lib.hid ho6; have HG6 := Lib.hid hg6; have HV6 := Lib.hid hv6; have B6 := (gb_cell hg6 (b := w.heap.size) (o := 0) (Nat.lt_of_lt_of_le y0 GE7.out.size) y5).trans (show (((w5.alloc (.cells #[.int .i64 other, .slice fo2 key.length fc2, .slice to2 r.2.2.1.length tc2, .int .i64 (r.2.2.2 + 1)] 39)).alloc (.cells #[.int .i64 id, .slice fo1 r.2.1.length fc1, .slice to1 key.length tc1, .int .i64 (r.2.2.2 + 1), .int .i64 other, .slice fo2 key.length fc2, .slice to2 r.2.2.1.length tc2, .int .i64 (r.2.2.2 + 1)] 39))).cell? ⟨w.heap.size, 0, none⟩ = some (.pointer (some ⟨tb, 0, none⟩)) by go_simp); have T6 := (gb_cell hg6 (b := tb) (o := 0) (Nat.lt_of_lt_of_le y1 GE7.out.size) y4).trans (show (((w5.alloc (.cells #[.int .i64 other, .slice fo2 key.length fc2, .slice to2 r.2.2.1.length tc2, .int .i64 (r.2.2.2 + 1)] 39)).alloc (.cells #[.int .i64 id, .slice fo1 r.2.1.length fc1, .slice to1 key.length tc1, .int .i64 (r.2.2.2 + 1), .int .i64 other, .slice fo2 key.length fc2, .slice to2 r.2.2.1.length tc2, .int .i64 (r.2.2.2 + 1)] 39))).cell? ⟨tb, 0, none⟩ = _ from (GE7.out.cell (p := ⟨tb, 0, none⟩) y1).trans t0); have T6f := (gb_frozen hg6 (b := tb) (o := 0) (Nat.lt_of_lt_of_le y1 GE7.out.size) y4).trans (show (((w5.alloc (.cells #[.int .i64 other, .slice fo2 key.length fc2, .slice to2 r.2.2.1.length tc2, .int .i64 (r.2.2.2 + 1)] 39)).alloc (.cells #[.int .i64 id, .slice fo1 r.2.1.length fc1, .slice to1 key.length tc1, .int .i64 (r.2.2.2 + 1), .int .i64 other, .slice fo2 key.length fc2, .slice to2 r.2.2.1.length tc2, .int .i64 (r.2.2.2 + 1)] 39))).frozen? ⟨tb, 0, none⟩ = _ from (GE7.out.frozen (p := ⟨tb, 0, none⟩) y1).trans zf); clear ho6 hg6 hv6
    refine hK9.out _ _ ?_ (fun hT9 => ?_)
    · (try dsimp only); (first | (go_keep; done) | (obtain ⟨s0, s1, s2, s3, s4, s5, s6, s7, s8, s9⟩ := hS9; exact ⟨(gb_cell HG6.out (Nat.lt_of_lt_of_le y0 GE7.out.size) y5).trans s0, (gb_cell HG6.out (Nat.lt_of_lt_of_le y1 GE7.out.size) y4).trans s1, (gb_cell HG6.out (Nat.lt_of_lt_of_le y2 GE7.out.size) y6).trans s2, (gb_cell HG6.out (Nat.lt_of_lt_of_le y2 GE7.out.size) y6).trans s3, (gb_cell HG6.out (Nat.lt_of_lt_of_le y2 GE7.out.size) y6).trans s4, (gb_cell HG6.out (Nat.lt_of_lt_of_le y2 GE7.out.size) y6).trans s5, (gb_cell HG6.out x5 y7).trans s6, (gb_cell HG6.out x5 y7).trans s7, (gb_cell HG6.out x5 y7).trans s8, (gb_cell HG6.out x5 y7).trans s9⟩))
    clear hK9 K9 hS9; have hS9 := hT9; clear hT9
    (try simp only [Act.put, List.setIfInBounds_toArray, List.set_cons_succ, List.set_cons_zero])
    refine wpAnyL_one (i := 12) rfl (by kernel_rfl) (fun K9 hK9 => ?_)
    go_simp
    refine hK9.out _ _ ?_ (fun hT9 => ?_)
    · (try dsimp only); (first | (go_keep; done) | (obtain ⟨s0, s1, s2, s3, s4, s5, s6, s7, s8, s9⟩ := hS9; exact ⟨(gb_cell HG6.out (Nat.lt_of_lt_of_le y0 GE7.out.size) y5).trans s0, (gb_cell HG6.out (Nat.lt_of_lt_of_le y1 GE7.out.size) y4).trans s1, (gb_cell HG6.out (Nat.lt_of_lt_of_le y2 GE7.out.size) y6).trans s2, (gb_cell HG6.out (Nat.lt_of_lt_of_le y2 GE7.out.size) y6).trans s3, (gb_cell HG6.out (Nat.lt_of_lt_of_le y2 GE7.out.size) y6).trans s4, (gb_cell HG6.out (Nat.lt_of_lt_of_le y2 GE7.out.size) y6).trans s5, (gb_cell HG6.out x5 y7).trans s6, (gb_cell HG6.out x5 y7).trans s7, (gb_cell HG6.out x5 y7).trans s8, (gb_cell HG6.out x5 y7).trans s9⟩))
    clear hK9 K9 hS9; have hS9 := hT9; clear hT9
    (try simp only [Act.put, List.setIfInBounds_toArray, List.set_cons_succ, List.set_cons_zero])
    refine wpAnyL_take (i := 13) rfl (by kernel_rfl) (by kernel_rfl) (by kernel_rfl) (by kernel_rfl) (by rfl) hS9 ?_; apply Exists.intro; refine ⟨fun _ _ _ h => h, fun w9 hT9 => ?_, ?_⟩
    · (try dsimp only at hT9); go_simp; first | done | with_reducible rfl | rfl
    simp only [Act.put, List.setIfInBounds_toArray, List.set_cons_succ, List.set_cons_zero]
    refine wpAnyL_last rfl (by kernel_rfl) (fun K9 hK9 => ?_)
    go_simp
    refine hK9.out _ _ ?_; clear hK9 K9
    (try simp only [Act.put, List.setIfInBounds_toArray, List.set_cons_succ, List.set_cons_zero])
    refine wpAnyL_done (by kernel_rfl) ?_ _; clear hS9
    have HT6 : Hid (w6.heap[tb]? = some (.cells #[.slice (some ⟨g, 0, none⟩) l.length cap] 80 (0, 0))) := Lib.hid ((HG6.out.block tb (Nat.lt_of_lt_of_le y1 GE7.out.size) (fun e => y4 (Option.some.inj e))).trans ((G7.out.block tb htl).trans HT.out))
    go_wp2_with fail
    go_ret
    rw [HE.out, HOK.out]
    have ht6 := HT6.out
    have hk' : k < l.length := hkl
    have hC7 : Chg (fun b => b = tb ∨ (Value.slice (some ⟨g, 0, none⟩) l.length cap).ownBlock = some b) w w6 := (Chg.of_ext G7.out.drew).fresh (.of_grown HG6.out (S := fun b => (Value.slice (some ⟨g, 0, none⟩) l.length cap).ownBlock = some b) (fun _ _ h => h)) (fun _ _ h => .inr h)
    have hC := hC7.set (p := ⟨tb, 0, none⟩) (fun _ => .inl rfl) (.slice ao6 (l.length + 1) cap6)
    have hT : ∀ (W : World) b cur, W.heap[tb]? = some (.cells #[.slice (some ⟨g, 0, none⟩) l.length cap] 80 (0, 0)) → (∃ c, W.heap[g]? = some (.cells c 39 (0, 0))) → W.heap[b]? = some (.cells cur 5 (0, 0)) → ¬ (b = tb ∨ (Value.slice (some ⟨g, 0, none⟩) l.length cap).ownBlock = some b) := by
      rintro W b cur h1 ⟨c, h2⟩ h3 (rfl | h4)
      · exact absurd (types_apart h1 h3) (by decide)
      · obtain rfl : g = b := Option.some.inj h4
        exact absurd (types_apart h2 h3) (by decide)
    have hgt : ∃ c, w.heap[g]? = some (.cells c 39 (0, 0)) := by obtain ⟨c, -, hc, -⟩ := own_row HO.out; exact ⟨c, hc⟩
    have step : ∀ W, Below w.heap.size w W → Chg (fun b => b = tb ∨ (Value.slice (some ⟨g, 0, none⟩) l.length cap).ownBlock = some b) W (w6.setCell ⟨tb, 0, none⟩ (.slice ao6 (l.length + 1) cap6)) → ∀ s : RV, GoodV W base s → GoodV (w6.setCell ⟨tb, 0, none⟩ (.slice ao6 (l.length + 1) cap6)) base s := fun W hW hc s hs =>
      hs.chg hc (fun b cur hb => hT W b cur ((hW.block tb htl).trans HT.out) (by obtain ⟨c, hc⟩ := hgt; exact ⟨c, (hW.block g hgl).trans hc⟩) hb)
    have hne6 : (Value.slice ao6 (l.length + 1) cap6).ownBlock ≠ some tb := by
      rcases HV6.out with h | ⟨b, h, hb⟩
      · rw [h]; exact fun e => y4 (Option.some.inj e).symm
      · rw [h]
        intro e
        have e2 := Option.some.inj e
        have := Nat.lt_of_lt_of_le y1 GE7.out.size
        have hb' : _ ≤ b := hb
        rw [e2] at hb'
        exact absurd this (Nat.not_lt.2 hb')
    refine ⟨rfl, .slice ao6 (l.length + 1) cap6, ?_, ⟨rs.take k ++ [left, rest] ++ rs.drop (k + 1), ?_, ?_, ?_⟩, hC, ?_⟩
    · rw [setCell_eq_setRow w6 tb 0 _ _ _ _ ht6]
      exact setRow_heap w6 tb _ _ _ _ ht6
    · unfold splitL
      rw [← HRS.out, HLE.out, HRE.out]
      simp only [List.map_append, List.map_take, List.map_drop, List.map_cons, List.map_nil]
    · have h6 := own_set_other HO6.out (p := ⟨tb, 0, none⟩) hne6 (.slice ao6 (l.length + 1) cap6)
      have hl : (splitL l k r id other key).length = l.length + 1 := by
        unfold splitL
        simp only [List.length_append, List.length_take, List.length_drop, List.length_cons, List.length_nil]
        omega
      rw [hl]
      rw [flat_take cells4_len, flat_drop cells4_len] at h6
      simpa only [List.flatMap_append, List.flatMap_cons, List.flatMap_nil, List.append_nil, List.append_assoc] using h6
    · intro s hs
      rcases List.mem_append.1 hs with hs | hs
      · rcases List.mem_append.1 hs with hs | hs
        · exact step w (Below.refl _ _) hC s (HGOOD.out s (List.mem_of_mem_take hs))
        · have hI : I64 (r.2.2.2 + 1) := by unfold I64; omega
          have hch : ∀ W, Below W.heap.size W w5 → Chg (fun b => b = tb ∨ (Value.slice (some ⟨g, 0, none⟩) l.length cap).ownBlock = some b) W (w6.setCell ⟨tb, 0, none⟩ (.slice ao6 (l.length + 1) cap6)) := fun W hW =>
            ((Chg.of_ext ((hW.trans (GE7.out.mono hW.size))).drew).fresh (.of_grown HG6.out (S := fun b => (Value.slice (some ⟨g, 0, none⟩) l.length cap).ownBlock = some b) (fun _ _ h => h)) (fun _ _ h => .inr h)).set (p := ⟨tb, 0, none⟩) (fun _ => .inl rfl) _
          have zz := GW.out.size
          simp only [List.mem_cons, List.not_mem_nil, or_false] at hs
          rcases hs with rfl | rfl
          · rw [HLE.out]
            exact step w4 GW4.out (hch w4 G5.out) _ ⟨H1.out.mono (by simp; omega), H2.out.mono (by simp; omega), hid, hI⟩
          · rw [HRE.out]
            exact step w5 GW5.out (hch w5 (Below.refl _ _)) _ ⟨H3.out.mono (by simp; omega), H4.out.mono (by simp; omega), hoth, hI⟩
      · exact step w (Below.refl _ _) hC s (HGOOD.out s (List.mem_of_mem_drop hs))
    · rcases HV6.out with h | ⟨b, h, hb⟩
      · exact .inl h
      · exact .inr ⟨b, h, Nat.le_trans G7.out.size hb⟩
end Rm
end Go.Proofs.Ytbeniogffhihlaa
