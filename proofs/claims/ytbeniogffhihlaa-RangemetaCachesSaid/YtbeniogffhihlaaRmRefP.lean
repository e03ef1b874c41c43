/- rangemeta: the document's Split. -/
import Derived.Test.YtbeniogffhihlaaRmRefF
set_option linter.unusedVariables false
set_option linter.unusedSimpArgs false
namespace Go.Proofs.Ytbeniogffhihlaa
open Go.RowKit
namespace Rm
theorem idxF_cases (p : RangeD → Bool) (l : List RangeD) : (idxF p l = -1 ∧ ∀ x ∈ l, p x = false) ∨ ∃ (j : Nat) (y : RangeD), idxF p l = (j : Int) ∧ j < l.length ∧ l[j]? = some y ∧ p y = true := by
  unfold idxF
  cases h : l.findIdx? p with
  | none => exact .inl ⟨rfl, fun x hx => by have := List.findIdx?_eq_none_iff.1 h x hx; simpa using this⟩
  | some k =>
    obtain ⟨hk, hp, -⟩ := List.findIdx?_eq_some_iff_getElem.1 h
    exact .inr ⟨k, l[k], rfl, hk, List.getElem?_eq_getElem hk, hp⟩
/-- which has this id, of the first k -/
def atF (id : Int) (l : List RangeD) (k : Nat) : Int := idxF (fun x => x.1 == id) (l.take k)
def anyF (other : Int) (l : List RangeD) (k : Nat) : Bool := (l.take k).any fun x => x.1 == other
theorem at_hit {id : Int} {l : List RangeD} {k : Nat} {x : RangeD} (hnd : (l.map (·.1)).Nodup) (hx : l[k]? = some x) (he : (x.1 == id) = true) : atF id l (k + 1) = (k : Int) := by
  have hk := (List.getElem?_eq_some_iff.1 hx).1
  refine idxF_some (x := x) (fun y hy => ?_) (by rw [List.getElem?_take, if_pos (by omega)]; exact hx) he
  rw [List.take_take, Nat.min_eq_left (by omega)] at hy
  obtain ⟨j, hj, rfl⟩ := List.mem_take_iff_getElem.1 hy
  rw [beq_eq_false_iff_ne]
  intro hid
  rw [List.nodup_iff_pairwise_ne, List.pairwise_iff_getElem] at hnd
  refine hnd j k (by first | omega | (simp; omega) | simp) (by first | omega | (simp; omega) | simp) (by omega) ?_
  rw [List.getElem_map, List.getElem_map, hid]
  have : l[k] = x := (List.getElem?_eq_some_iff.1 hx).2
  rw [this]
  exact (beq_iff_eq.1 he).symm
theorem at_miss {id : Int} {l : List RangeD} {k : Nat} {x : RangeD} (hx : l[k]? = some x) (he : (x.1 == id) = false) : atF id l (k + 1) = atF id l k := by
  unfold atF
  rw [take_snoc hx]
  rcases idxF_cases (fun x => x.1 == id) (l.take k) with ⟨h1, h2⟩ | ⟨j, y, h1, h2, h3, h4⟩
  · rw [h1]
    refine idxF_none (fun y hy => ?_)
    rcases List.mem_append.1 hy with hy | hy
    · exact h2 y hy
    · rw [List.mem_singleton] at hy; subst hy; exact he
  · unfold idxF at h1 ⊢
    rw [List.findIdx?_append]
    cases h : (l.take k).findIdx? fun x => x.1 == id with
    | none => rw [h] at h1; simp at h1
    | some i => rfl
theorem any_next {other : Int} {l : List RangeD} {k : Nat} {x : RangeD} (hx : l[k]? = some x) : anyF other l (k + 1) = (anyF other l k || (x.1 == other)) := by
  unfold anyF
  rw [take_snoc hx, List.any_append]
  simp
theorem any_idx (other : Int) (l : List RangeD) : anyF other l l.length = true ↔ 0 ≤ idxF (fun x => x.1 == other) l := by
  unfold anyF
  rw [List.take_length]
  rcases idxF_cases (fun x => x.1 == other) l with ⟨h1, h2⟩ | ⟨j, y, h1, h2, h3, h4⟩
  · rw [h1]
    constructor
    · intro h
      obtain ⟨x, hx, hp⟩ := List.any_eq_true.1 h
      rw [h2 x hx] at hp
      cases hp
    · intro h; omega
  · rw [h1]
    constructor
    · intro _; omega
    · intro _; exact List.any_eq_true.2 ⟨y, List.mem_of_getElem? h3, h4⟩
def RSplitP (w0 : World) (base : Nat) (lv : Value) (c : Int) (l' : List RangeD) (w : World) (e : Ending) (w' : World) : Prop :=
  ∃ lv', e = .returned (.tuple #[lv', .int .i64 c]) ∧ RowB w0 base w' lv' l' ∧ (lv' = lv ∨ ∃ b, lv'.ownBlock = some b ∧ w.heap.size ≤ b) ∧ Below w.heap.size w w'
theorem rSplitP_same {w0 w w' : World} {base : Nat} {lv : Value} {c : Int} {l : List RangeD} (h : RowB w0 base w lv l) (hb : Below w.heap.size w w') : RSplitP w0 base lv c l w (.returned (.tuple #[lv, .int .i64 c])) w' :=
  ⟨lv, rfl, h.below hb, .inl rfl, hb⟩
set_option maxRecDepth 100000 in
set_option maxHeartbeats 16000000 in
theorem rSplit_any (w0 : World) (base : Nat) (lv kv : Value) (l : List RangeD) (id other : Int) (key : List Int) (w : World) (h0 : Below w0.heap.size w0 w) (hbase : base ≤ w.heap.size) (h : RowB w0 base w lv l) (hne : l ≠ []) (hn : l.length ≤ 32) (hnd : (l.map (·.1)).Nodup)
    (hf : ∀ x ∈ l, Fair x) (hk : IsB w0 kv key) (hid : I64 id) (hoth : I64 other) :
    Calls Try.prog 14 #[lv, .int .i64 id, kv, .int .i64 other] w (RSplitP w0 base lv (splitE l id other key) (splitR l id other key) w) := by
  obtain ⟨i0, hi0, hz0, hz1, hz2⟩ := info_parts infoRg
  have HI := Lib.hid hi0; have HZ0 := Lib.hid hz0; have HZ1 := Lib.hid hz1; have HZ2 := Lib.hid hz2
  clear hi0 hz0 hz1 hz2
  obtain ⟨g, cap, rfl⟩ := h.slice hne
  obtain ⟨ko, kc, rfl, -, -, -⟩ := hk.form
  have hkm := hk.max
  have H := Lib.hid h
  have HK := Lib.hid hk
  have HF := Lib.hid hf
  have HND := Lib.hid hnd
  have H0 := Lib.hid h0
  have HID := Lib.hid hid; have HOTH := Lib.hid hoth
  have HNE := Lib.hid hne
  have HBASE := Lib.hid hbase
  obtain ⟨rs, hrs, hro, hrg⟩ := h
  have HRS := Lib.hid hrs; have HRO := Lib.hid hro; have HRG := Lib.hid hrg
  obtain ⟨-, -, -, ncap, hcap, -, -⟩ := own_row hro
  unfold maxLen at hcap
  obtain ⟨hbg, hgl⟩ := own_lt hro
  clear hk hf hnd h0 hid hoth hne hbase hrs hro hrg
  go_enter Try.func14, Try.ntmps14
  go_wp2_with fail
  go_loopw [10, 11, 12] (fun a u i wr => ∃ k : Nat, k ≤ l.length ∧ i = .int .i64 k ∧ a = .int .i64 (atF id l k) ∧ u = .bool (anyF other l k) ∧ Hid (Below w.heap.size w wr)) (fun _ _ i _ => l.length - (intOf i).toNat)
  case atStart => exact ⟨0, Nat.zero_le _, rfl, rfl, rfl, Below.refl _ _⟩
  case round =>
    obtain ⟨k, hk, rfl, rfl, rfl, hbel⟩ := hrel
    by_cases hlt : k < l.length
    · obtain ⟨x, hx'⟩ : ∃ x, l[k]? = some x := ⟨_, List.getElem?_eq_getElem hlt⟩
      have hx := Lib.hid hx'
      obtain ⟨fv, tv, c0', c1', c2', c3', hfv, htv, -, -⟩ := H.out.at_ hx'
      have c0 := (hbel.out.cell (p := ⟨g, k * 4, none⟩) hgl).trans c0'
      have hl0 : (k : Int) < l.length := by omega
      have hl1 : 0 ≤ (k : Int) := by omega
      have hw1 := IntWalk.i64_in ((k : Int) + 1) (by omega)
      have HA := Lib.hid (any_next (other := other) hx')
      clear c0' c1' c2' c3' hx'
      generalize hAU : anyF other l k = AU at *
      clear hAU
      cases q1 : (x.1 == id)
      · have HT := Lib.hid (at_miss hx.out q1)
        generalize hAT : atF id l k = AT at *
        clear hAT
        cases AU <;> cases q2 : (x.1 == other)
        all_goals (
          have HA' := Lib.hid HA.out
          go_wp2_with fail
          go_roundw
          case rel => exact ⟨k + 1, by omega, by go_num, by rw [HT.out], by rw [HA.out]; first | rfl | rw [q2]; rfl, hbel.out⟩
          case measure => simp [intOf]; omega)
      · have HT := Lib.hid (at_hit HND.out hx.out q1)
        generalize hAT : atF id l k = AT at *
        clear hAT
        cases AU <;> cases q2 : (x.1 == other)
        all_goals (
          have HA' := Lib.hid HA.out
          go_wp2_with fail
          go_roundw
          case rel => exact ⟨k + 1, by omega, by go_num, by rw [HT.out], by rw [HA.out]; first | rfl | rw [q2]; rfl, hbel.out⟩
          case measure => simp [intOf]; omega)
    · have hkl : k = l.length := by omega
      subst hkl
      have HA := Lib.hid (any_idx other l)
      have hat : atF id l l.length = idxF (fun x => x.1 == id) l := by unfold atF; rw [List.take_length]
      rw [hat]
      clear hat
      generalize anyF other l l.length = AU at *
      have hcase := idxF_cases (fun x => x.1 == id) l
      generalize hix : idxF (fun x => x.1 == id) l = ix at *
      have HIX := Lib.hid hix
      clear hix
      rcases hcase with ⟨rfl, hnone⟩ | ⟨k, r, rfl, hkl, hrk, -⟩
      · have HE : Hid (splitE l id other key = 151 ∧ splitR l id other key = l) := Lib.hid (by
          have e1 : splitE l id other key = 151 := by unfold splitE; rw [HIX.out]; rfl
          exact ⟨e1, by unfold splitR; rw [e1]; rfl⟩)
        clear hnone
        go_wp2_with fail
        go_ret2
        rw [HE.out.1, HE.out.2]
        exact rSplitP_same H.out hbel.out
      · have HE : Hid (splitE l id other key = _) := Lib.hid (splitE_at (other := other) (key := key) HIX.out hrk)
        have HSAME : Hid (∀ c w', c ≠ 0 → splitE l id other key = c → Below w.heap.size w w' → RSplitP w0 base (.slice (some ⟨g, 0, none⟩) l.length cap) (splitE l id other key) (splitR l id other key) w (.returned (.tuple #[.slice (some ⟨g, 0, none⟩) l.length cap, .int .i64 c])) w') := Lib.hid (fun c w' hc he hb => by
          have e1 : splitR l id other key = l := by unfold splitR; rw [he, if_neg hc]
          rw [he, e1]
          exact rSplitP_same H.out hb)
        obtain ⟨fv, tv, c0', c1', c2', c3', hfv', htv', -, -⟩ := H.out.at_ hrk
        have C0 := Lib.hid c0'; have C1 := Lib.hid c1'; have C2 := Lib.hid c2'; have C3 := Lib.hid c3'
        have HRK := Lib.hid hrk
        obtain ⟨fo, fc, rfl, -, -, -⟩ := hfv'.out.form
        obtain ⟨to, tc, rfl, -, -, -⟩ := htv'.out.form
        have c1 := (hbel.out.cell (p := ⟨g, k * 4 + 1, none⟩) hgl).trans c1'
        have c2 := (hbel.out.cell (p := ⟨g, k * 4 + 2, none⟩) hgl).trans c2'
        obtain ⟨ff1, ff2, ff3, ff4⟩ := HF.out r (List.mem_of_getElem? hrk)
        have k0 : (k : Int) < l.length := by omega
        have k1 : (0 : Int) ≤ k := by omega
        have k2 : ¬ (k : Int) < 0 := by omega
        have HIN := Lib.hid (rIn_any _ _ _ r.2.1 r.2.2.1 key wr ((hfv'.out.below H0.out).below hbel.out) ((htv'.out.below H0.out).below hbel.out) ((HK.out.below H0.out).below hbel.out))
        clear c0' c1' c2' c3' hrk
        go_wp2_with fail
        refine HIN.out.mono ?_
        rintro e w2 ⟨rfl, hb⟩
        have G2 : Hid (Below w.heap.size w w2) := Lib.hid (bel_call hbel.out hb)
        clear hb c1 c2 HIN
        go_wp2_with fail
        have c1 := (G2.out.cell (p := ⟨g, k * 4 + 1, none⟩) hgl).trans C1.out
        have c3 := (G2.out.cell (p := ⟨g, k * 4 + 3, none⟩) hgl).trans C3.out
        have kx := fun nq => ((HK.out.below H0.out).below (below_drewN G2.out nq)).conv (P := Try.prog) Try.underlying23 Try.underlying5 Try.underlying9
        have ky := fun nq => ((hfv'.out.below H0.out).below (below_drewN G2.out nq)).conv (P := Try.prog) Try.underlying23 Try.underlying5 Try.underlying9
        have sx := str_beq HK.out.rng hfv'.out.rng
        have hlk : (key.length : Int) ≤ 9223372036854775807 := by omega
        by_cases a1 : 110 < key.length
        · have e1 : decide (110 < key.length) = true := decide_eq_true a1; have e1' : decide ((110 : Int) < (key.length : Int)) = true := decide_eq_true (by omega)
          have HX : Hid (splitE l id other key = 150) := Lib.hid (by rw [HE.out, if_pos a1])
          clear HE a1
          go_quiet (fail)
          go_wp2_with fail
          go_ret2
          exact HSAME.out 150 _ (by decide) HX.out (below_drewN G2.out _)
        have e1 : decide (110 < key.length) = false := decide_eq_false a1; have e1' : decide ((110 : Int) < (key.length : Int)) = false := decide_eq_false (by omega)
        replace HE := HE.out
        rw [if_neg a1] at HE
        replace HE := Lib.hid HE
        clear a1
        cases a2 : holdsB (r.2.1, r.2.2.1) key
        · have HX : Hid (splitE l id other key = 150) := Lib.hid (by rw [HE.out, if_pos a2])
          clear HE
          go_quiet (fail)
          go_wp2_with fail
          go_ret2
          exact HSAME.out 150 _ (by decide) HX.out (below_drewN G2.out _)
        replace HE := HE.out
        rw [if_neg (by rw [a2]; decide)] at HE
        replace HE := Lib.hid HE
        clear a2
        by_cases a3 : key = r.2.1
        · rw [decide_eq_true a3] at sx; have HA3 := Lib.hid a3; clear a3
          have HX : Hid (splitE l id other key = 150) := Lib.hid (by rw [HE.out, if_pos HA3.out])
          clear HE 
          go_quiet (fail)
          go_wp2_with fail
          go_ret2
          exact HSAME.out 150 _ (by decide) HX.out (below_drewN G2.out _)
        rw [decide_eq_false a3] at sx
        replace HE := HE.out
        rw [if_neg a3] at HE
        replace HE := Lib.hid HE
        clear a3
        by_cases a4 : other < 1
        · have e4 : decide (other < 1) = true := decide_eq_true a4
          have HX : Hid (splitE l id other key = 150) := Lib.hid (by rw [HE.out, if_pos a4])
          clear HE a4
          go_quiet (fail)
          go_wp2_with fail
          go_ret2
          exact HSAME.out 150 _ (by decide) HX.out (below_drewN G2.out _)
        have e4 : decide (other < 1) = false := decide_eq_false a4
        replace HE := HE.out
        rw [if_neg a4] at HE
        replace HE := Lib.hid HE
        by_cases a5 : 255 < other
        · have e5 : decide (255 < other) = true := decide_eq_true a5
          have HX : Hid (splitE l id other key = 150) := Lib.hid (by rw [HE.out, if_pos a5])
          clear HE a4 a5
          go_quiet (fail)
          go_wp2_with fail
          go_ret2
          exact HSAME.out 150 _ (by decide) HX.out (below_drewN G2.out _)
        have e5 : decide (255 < other) = false := decide_eq_false a5
        replace HE := HE.out
        rw [if_neg a5] at HE
        replace HE := Lib.hid HE
        clear a4 a5
        cases AU
        case true =>
          have HX : Hid (splitE l id other key = 150) := Lib.hid (by rw [HE.out, if_pos (HA.out.1 rfl)])
          clear HE
          go_quiet (fail)
          go_wp2_with fail
          go_ret2
          exact HSAME.out 150 _ (by decide) HX.out (below_drewN G2.out _)
        replace HE := HE.out
        rw [if_neg (fun h => by have := HA.out.2 h; cases this)] at HE
        replace HE := Lib.hid HE
        go_quiet (fail)
        generalize hW3 : w2.drewN nq = w3
        have G3 : Hid (Below w.heap.size w w3) := Lib.hid (by rw [← hW3]; exact below_drewN G2.out _)
        clear hW3 c1 c3 kx ky sx
        have c3 := (G3.out.cell (p := ⟨g, k * 4 + 3, none⟩) hgl).trans C3.out
        by_cases a6 : 32 ≤ l.length
        · have e6 : decide (32 ≤ l.length) = true := decide_eq_true a6
          have e6' : decide ((32 : Int) ≤ (l.length : Int)) = true := decide_eq_true (by omega)
          have HX : Hid (splitE l id other key = 152) := Lib.hid (by rw [HE.out, if_pos a6])
          clear HE a6 hn
          go_wp2_with fail
          go_ret2
          exact HSAME.out 152 _ (by decide) HX.out G3.out
        have e6 : decide (32 ≤ l.length) = false := decide_eq_false a6
        have e6' : decide ((32 : Int) ≤ (l.length : Int)) = false := decide_eq_false (by omega)
        replace HE := HE.out
        rw [if_neg a6] at HE
        replace HE := Lib.hid HE
        by_cases a7 : r.2.2.2 = 9007199254740991
        · have e7 : (r.2.2.2 == 9007199254740991) = true := beq_iff_eq.2 a7
          have HX : Hid (splitE l id other key = 152) := Lib.hid (by rw [HE.out, if_pos a7])
          clear HE a7 a6
          go_wp2_with fail
          go_ret2
          exact HSAME.out 152 _ (by decide) HX.out G3.out
        have e7 : (r.2.2.2 == 9007199254740991) = false := beq_eq_false_iff_ne.2 a7
        have HOK : Hid (splitE l id other key = 0) := Lib.hid (by rw [HE.out, if_neg a7])
        clear HE a6 a7
        have HX1 : Hid (∀ u ∈ rs.flatMap cells4, u.oneCell' = true) := Lib.hid (fun u hu => by
          obtain ⟨q, hq, hu⟩ := List.mem_flatMap.1 hu
          obtain ⟨o1, p1, e1, -⟩ := (HRG.out q hq).1.form
          obtain ⟨o2, p2, e2, -⟩ := (HRG.out q hq).2.1.form
          simp only [cells4, List.mem_cons, List.not_mem_nil, or_false] at hu
          rcases hu with rfl | rfl | rfl | rfl
          · rfl
          · rw [e1]; rfl
          · rw [e2]; rfl
          · rfl)
        obtain ⟨xs, hxs⟩ : ∃ xs, rs.flatMap cells4 = xs := ⟨_, rfl⟩
        have HXS := Lib.hid hxs
        rw [hxs] at HX1 HRO
        clear hxs
        have HXL := Lib.hid HRO.out.1
        have O3 := Lib.hid (own_below HRO.out G3.out)
        have z3 := G3.out.size
        have kn : k + 1 ≤ l.length := by omega
        have s1 := IntWalk.i64_in (r.2.2.2 + 1) (by omega)
        have s2 := IntWalk.i64_in ((k : Int) + 1) (by omega)
        have s3 : ((k : Int) + 1).toNat = k + 1 := by omega
        have s4 : (0 : Int) ≤ (k : Int) + 1 := by omega
        have s5 : (k : Int) + 1 ≤ l.length := by omega
        have s6 : k ≤ cap := by omega
        go_wp2_with (at_builtin; refine wpList_append_own_at (w := w3) rfl (.tmp 92) (.tmp 95) _ rfl w.heap.size 39 i0 _ 4 64 Try.underlying29 HI.out HZ0.out HZ1.out HZ2.out rfl (by decide) (.slice none 0 0) 0 [] rfl ⟨rfl, .inl ⟨rfl, rfl⟩⟩ ⟨g, 0, none⟩ k cap (xs.take (k * 4)) rfl (by rw [List.length_take, HXL.out]; omega) (fun j u hj => by rw [plain_add', Nat.zero_add]; exact own_cell' (own_prefix O3.out (by omega)) hj) (fun u hu => HX1.out u (List.mem_of_mem_take hu)) (by simp only [maxLen]; omega) (by omega) (by omega) ?_; intro v4 w4 ho4 hb4 _ hk4; rw [Nat.zero_add, List.nil_append] at ho4; obtain ⟨ao4, cap4, rfl, -, -, -, -⟩ := own_form ho4; have HO4 := Lib.hid ho4; have HB4 := Lib.hid hb4; clear ho4 hb4 hk4)
        have G4 : Hid (Below w.heap.size w w4) := Lib.hid (bel_own (e := 39) (size := 4) (n := 0) (xs := []) (v := .slice none 0 0) G3.out HB4.out ⟨rfl, .inl ⟨rfl, rfl⟩⟩)
        have z4 := G4.out.size
        clear c3
        have y4 : g < w4.heap.size := by omega
        have d1 := (G4.out.cell (p := ⟨g, k * 4 + 1, none⟩) hgl).trans C1.out
        have d3 := (G4.out.cell (p := ⟨g, k * 4 + 3, none⟩) hgl).trans C3.out
        refine wp_region_T (fun w' => Below w4.heap.size w4 w') [18, 19] (by kernel_rfl) ?_ (fun hS9 => ?_)
        · exact (Below.refl _ _).drew
        refine wpAnyT_take (i := 0) rfl (by kernel_rfl) (by kernel_rfl) (by kernel_rfl) (by kernel_rfl) (by kernel_rfl) (by rfl) hS9 ?_; apply Exists.intro; refine ⟨fun _ _ _ h => h, fun w9 hT9 => ?_, ?_⟩
        · (try dsimp only at hT9); go_simp; first | done | with_reducible rfl | rfl
        simp only [Act.put, List.setIfInBounds_toArray, List.set_cons_succ, List.set_cons_zero]
        refine wpAnyT_take (i := 1) rfl (by kernel_rfl) (by kernel_rfl) (by kernel_rfl) (by kernel_rfl) (by kernel_rfl) (by rfl) hS9 ?_; apply Exists.intro; refine ⟨fun _ _ _ h => h, fun w9 hT9 => ?_, ?_⟩
        · (try dsimp only at hT9); go_simp; first | done | with_reducible rfl | rfl
        simp only [Act.put, List.setIfInBounds_toArray, List.set_cons_succ, List.set_cons_zero]
        refine wpAnyT_take (i := 2) rfl (by kernel_rfl) (by kernel_rfl) (by kernel_rfl) (by kernel_rfl) (by kernel_rfl) (by rfl) hS9 ?_; apply Exists.intro; refine ⟨fun _ _ _ h => h, fun w9 hT9 => ?_, ?_⟩
        · (try dsimp only at hT9); go_simp; first | done | with_reducible rfl | rfl
        simp only [Act.put, List.setIfInBounds_toArray, List.set_cons_succ, List.set_cons_zero]
        refine wpAnyT_take (i := 3) rfl (by kernel_rfl) (by kernel_rfl) (by kernel_rfl) (by kernel_rfl) (by kernel_rfl) (by rfl) hS9 ?_; apply Exists.intro; refine ⟨fun _ _ _ h => h, fun w9 hT9 => ?_, ?_⟩
        · (try dsimp only at hT9); go_simp; first | done | with_reducible rfl | rfl
        simp only [Act.put, List.setIfInBounds_toArray, List.set_cons_succ, List.set_cons_zero]
        refine wpAnyT_take (i := 4) rfl (by kernel_rfl) (by kernel_rfl) (by kernel_rfl) (by kernel_rfl) (by kernel_rfl) (by rfl) hS9 ?_; apply Exists.intro; refine ⟨fun _ _ _ h => h, fun w9 hT9 => ?_, ?_⟩
        · (try dsimp only at hT9); go_simp; first | done | with_reducible rfl | rfl
        simp only [Act.put, List.setIfInBounds_toArray, List.set_cons_succ, List.set_cons_zero]
        refine wpAnyT_take (i := 5) rfl (by kernel_rfl) (by kernel_rfl) (by kernel_rfl) (by kernel_rfl) (by kernel_rfl) (by rfl) hS9 ?_; apply Exists.intro; refine ⟨fun _ _ _ h => h, fun w9 hT9 => ?_, ?_⟩
        · (try dsimp only at hT9); go_simp; first | done | with_reducible rfl | rfl
        simp only [Act.put, List.setIfInBounds_toArray, List.set_cons_succ, List.set_cons_zero]
        refine wpAnyT_take (i := 6) rfl (by kernel_rfl) (by kernel_rfl) (by kernel_rfl) (by kernel_rfl) (by kernel_rfl) (by rfl) hS9 ?_; apply Exists.intro; refine ⟨fun _ _ _ h => h, fun w9 hT9 => ?_, ?_⟩
        · (try dsimp only at hT9); obtain ⟨hcc9, hff9⟩ := bcell hT9; go_simp; first | done | with_reducible rfl | rfl
        simp only [Act.put, List.setIfInBounds_toArray, List.set_cons_succ, List.set_cons_zero]
        refine wpAnyT_take (i := 7) rfl (by kernel_rfl) (by kernel_rfl) (by kernel_rfl) (by kernel_rfl) (by kernel_rfl) (by rfl) hS9 ?_; apply Exists.intro; refine ⟨fun _ _ _ h => h, fun w9 hT9 => ?_, ?_⟩
        · (try dsimp only at hT9); go_simp; first | done | with_reducible rfl | rfl
        simp only [Act.put, List.setIfInBounds_toArray, List.set_cons_succ, List.set_cons_zero]
        refine wpAnyT_take (i := 8) rfl (by kernel_rfl) (by kernel_rfl) (by kernel_rfl) (by kernel_rfl) (by kernel_rfl) (by rfl) hS9 ?_; apply Exists.intro; refine ⟨fun _ _ _ h => h, fun w9 hT9 => ?_, ?_⟩
        · (try dsimp only at hT9); go_simp; first | done | with_reducible rfl | rfl
        simp only [Act.put, List.setIfInBounds_toArray, List.set_cons_succ, List.set_cons_zero]
        refine wpAnyT_take (i := 9) rfl (by kernel_rfl) (by kernel_rfl) (by kernel_rfl) (by kernel_rfl) (by kernel_rfl) (by rfl) hS9 ?_; apply Exists.intro; refine ⟨fun _ _ _ h => h, fun w9 hT9 => ?_, ?_⟩
        · (try dsimp only at hT9); go_simp; first | done | with_reducible rfl | rfl
        simp only [Act.put, List.setIfInBounds_toArray, List.set_cons_succ, List.set_cons_zero]
        refine wpAnyT_take (i := 10) rfl (by kernel_rfl) (by kernel_rfl) (by kernel_rfl) (by kernel_rfl) (by kernel_rfl) (by rfl) hS9 ?_; apply Exists.intro; refine ⟨fun _ _ _ h => h, fun w9 hT9 => ?_, ?_⟩
        · (try dsimp only at hT9); go_simp; first | done | with_reducible rfl | rfl
        simp only [Act.put, List.setIfInBounds_toArray, List.set_cons_succ, List.set_cons_zero]
        refine wpAnyT_take (i := 11) rfl (by kernel_rfl) (by kernel_rfl) (by kernel_rfl) (by kernel_rfl) (by kernel_rfl) (by rfl) hS9 ?_; apply Exists.intro; refine ⟨fun _ _ _ h => h, fun w9 hT9 => ?_, ?_⟩
        · (try dsimp only at hT9); go_simp; first | done | with_reducible rfl | rfl
        simp only [Act.put, List.setIfInBounds_toArray, List.set_cons_succ, List.set_cons_zero]
        refine wpAnyT_take (i := 12) rfl (by kernel_rfl) (by kernel_rfl) (by kernel_rfl) (by kernel_rfl) (by kernel_rfl) (by rfl) hS9 ?_; apply Exists.intro; refine ⟨fun _ _ _ h => h, fun w9 hT9 => ?_, ?_⟩
        · (try dsimp only at hT9); go_simp; first | done | with_reducible rfl | rfl
        simp only [Act.put, List.setIfInBounds_toArray, List.set_cons_succ, List.set_cons_zero]
        refine wpAnyT_take (i := 13) rfl (by kernel_rfl) (by kernel_rfl) (by kernel_rfl) (by kernel_rfl) (by kernel_rfl) (by rfl) hS9 ?_; apply Exists.intro; refine ⟨fun _ _ _ h => h, fun w9 hT9 => ?_, ?_⟩
        · (try dsimp only at hT9); obtain ⟨hcc9, hff9⟩ := bcell hT9; go_simp; first | done | with_reducible rfl | rfl
        simp only [Act.put, List.setIfInBounds_toArray, List.set_cons_succ, List.set_cons_zero]
        refine wpAnyT_take (i := 14) rfl (by kernel_rfl) (by kernel_rfl) (by kernel_rfl) (by kernel_rfl) (by kernel_rfl) (by rfl) hS9 ?_; apply Exists.intro; refine ⟨fun _ _ _ h => h, fun w9 hT9 => ?_, ?_⟩
        · (try dsimp only at hT9); go_simp; first | done | with_reducible rfl | rfl
        simp only [Act.put, List.setIfInBounds_toArray, List.set_cons_succ, List.set_cons_zero]
        refine wpAnyT_take (i := 15) rfl (by kernel_rfl) (by kernel_rfl) (by kernel_rfl) (by kernel_rfl) (by kernel_rfl) (by rfl) hS9 ?_; apply Exists.intro; refine ⟨fun _ _ _ h => h, fun w9 hT9 => ?_, ?_⟩
        · (try dsimp only at hT9); go_simp; first | done | with_reducible rfl | rfl
        simp only [Act.put, List.setIfInBounds_toArray, List.set_cons_succ, List.set_cons_zero]
        refine wpAnyT_take (i := 16) rfl (by kernel_rfl) (by kernel_rfl) (by kernel_rfl) (by kernel_rfl) (by kernel_rfl) (by rfl) hS9 ?_; apply Exists.intro; refine ⟨fun _ _ _ h => h, fun w9 hT9 => ?_, ?_⟩
        · (try dsimp only at hT9); go_simp; first | done | with_reducible rfl | rfl
        simp only [Act.put, List.setIfInBounds_toArray, List.set_cons_succ, List.set_cons_zero]
        refine wpAnyT_one (i := 17) rfl (by kernel_rfl) (fun K9 hK9 => ?_)
        go_simp
        refine hK9.out _ _ ?_ (fun hT9 => ?_)
        · (try dsimp only); (first | exact hS9 | exact bel_call hS9 hb | exact bel_alloc hS9 _ | exact hS9.setCell (by simp <;> omega) _)
        clear hK9 K9 hS9; have hS9 := hT9; clear hT9
        (try simp only [Act.put, List.setIfInBounds_toArray, List.set_cons_succ, List.set_cons_zero])
        refine wpAnyT_free (i := 18) rfl (by kernel_rfl) (by kernel_rfl) (fun K9 hK9 => ?_)
        refine step_of_list rfl ?_; refine wpList_append_cells (v := .slice ao4 k cap4) (w := w4.drew) (base := w.heap.size) (size := 4) (n := k) (xs := xs.take (k * 4)) (.tmp 97) (.tmp 114) _ rfl rfl i0 _ 64 Try.underlying29 HI.out HZ0.out HZ1.out HZ2.out rfl (by decide) [.int .i64 id, .slice fo r.2.1.length fc, .slice ko key.length kc, .int .i64 (r.2.2.2 + 1)] rfl (by intro u hu; simp only [List.mem_cons, List.not_mem_nil, or_false] at hu; rcases hu with rfl | rfl | rfl | rfl <;> rfl) rfl rfl (own_drewN HO4.out 1) (by omega) (by omega) z4 ?_; intro v5 w5 ho5 hb5 hk5; obtain ⟨ao5, cap5, rfl, -, -, -, -⟩ := own_form ho5; have HO5 := Lib.hid ho5; have HB5 := Lib.hid hb5; clear ho5 hb5 hk5; refine list_done ?_
        refine hK9.out _ _ ?_; clear hK9 K9
        (try simp only [Act.put, List.setIfInBounds_toArray, List.set_cons_succ, List.set_cons_zero])
        refine wpAnyT_free (i := 19) rfl (by kernel_rfl) (by kernel_rfl) (fun K9 hK9 => ?_)
        go_simp
        refine hK9.out _ _ ?_; clear hK9 K9
        (try simp only [Act.put, List.setIfInBounds_toArray, List.set_cons_succ, List.set_cons_zero])
        refine wpAnyT_done (by kernel_rfl) ?_ _; have HS9 := Lib.hid hS9; clear hS9
        have G5 : Hid (Below w.heap.size w w5) := Lib.hid (bel_own G4.out.drew HB5.out (own_drewN HO4.out 1))
        have z5 := G5.out.size
        have y5 : g < w5.heap.size := by omega
        clear d1 d3
        have d2 := (G5.out.cell (p := ⟨g, k * 4 + 2, none⟩) hgl).trans C2.out
        have d3 := (G5.out.cell (p := ⟨g, k * 4 + 3, none⟩) hgl).trans C3.out
        go_wp2_with fail
        refine wp_region_T (fun w' => Below w5.heap.size w5 w') [18, 19] (by kernel_rfl) ?_ (fun hS9 => ?_)
        · exact (Below.refl _ _).drew
        refine wpAnyT_take (i := 0) rfl (by kernel_rfl) (by kernel_rfl) (by kernel_rfl) (by kernel_rfl) (by kernel_rfl) (by rfl) hS9 ?_; apply Exists.intro; refine ⟨fun _ _ _ h => h, fun w9 hT9 => ?_, ?_⟩
        · (try dsimp only at hT9); go_simp; first | done | with_reducible rfl | rfl
        simp only [Act.put, List.setIfInBounds_toArray, List.set_cons_succ, List.set_cons_zero]
        refine wpAnyT_take (i := 1) rfl (by kernel_rfl) (by kernel_rfl) (by kernel_rfl) (by kernel_rfl) (by kernel_rfl) (by rfl) hS9 ?_; apply Exists.intro; refine ⟨fun _ _ _ h => h, fun w9 hT9 => ?_, ?_⟩
        · (try dsimp only at hT9); go_simp; first | done | with_reducible rfl | rfl
        simp only [Act.put, List.setIfInBounds_toArray, List.set_cons_succ, List.set_cons_zero]
        refine wpAnyT_take (i := 2) rfl (by kernel_rfl) (by kernel_rfl) (by kernel_rfl) (by kernel_rfl) (by kernel_rfl) (by rfl) hS9 ?_; apply Exists.intro; refine ⟨fun _ _ _ h => h, fun w9 hT9 => ?_, ?_⟩
        · (try dsimp only at hT9); go_simp; first | done | with_reducible rfl | rfl
        simp only [Act.put, List.setIfInBounds_toArray, List.set_cons_succ, List.set_cons_zero]
        refine wpAnyT_take (i := 3) rfl (by kernel_rfl) (by kernel_rfl) (by kernel_rfl) (by kernel_rfl) (by kernel_rfl) (by rfl) hS9 ?_; apply Exists.intro; refine ⟨fun _ _ _ h => h, fun w9 hT9 => ?_, ?_⟩
        · (try dsimp only at hT9); go_simp; first | done | with_reducible rfl | rfl
        simp only [Act.put, List.setIfInBounds_toArray, List.set_cons_succ, List.set_cons_zero]
        refine wpAnyT_take (i := 4) rfl (by kernel_rfl) (by kernel_rfl) (by kernel_rfl) (by kernel_rfl) (by kernel_rfl) (by rfl) hS9 ?_; apply Exists.intro; refine ⟨fun _ _ _ h => h, fun w9 hT9 => ?_, ?_⟩
        · (try dsimp only at hT9); go_simp; first | done | with_reducible rfl | rfl
        simp only [Act.put, List.setIfInBounds_toArray, List.set_cons_succ, List.set_cons_zero]
        refine wpAnyT_take (i := 5) rfl (by kernel_rfl) (by kernel_rfl) (by kernel_rfl) (by kernel_rfl) (by kernel_rfl) (by rfl) hS9 ?_; apply Exists.intro; refine ⟨fun _ _ _ h => h, fun w9 hT9 => ?_, ?_⟩
        · (try dsimp only at hT9); go_simp; first | done | with_reducible rfl | rfl
        simp only [Act.put, List.setIfInBounds_toArray, List.set_cons_succ, List.set_cons_zero]
        refine wpAnyT_take (i := 6) rfl (by kernel_rfl) (by kernel_rfl) (by kernel_rfl) (by kernel_rfl) (by kernel_rfl) (by rfl) hS9 ?_; apply Exists.intro; refine ⟨fun _ _ _ h => h, fun w9 hT9 => ?_, ?_⟩
        · (try dsimp only at hT9); obtain ⟨hcc9, hff9⟩ := bcell hT9; go_simp; first | done | with_reducible rfl | rfl
        simp only [Act.put, List.setIfInBounds_toArray, List.set_cons_succ, List.set_cons_zero]
        refine wpAnyT_take (i := 7) rfl (by kernel_rfl) (by kernel_rfl) (by kernel_rfl) (by kernel_rfl) (by kernel_rfl) (by rfl) hS9 ?_; apply Exists.intro; refine ⟨fun _ _ _ h => h, fun w9 hT9 => ?_, ?_⟩
        · (try dsimp only at hT9); go_simp; first | done | with_reducible rfl | rfl
        simp only [Act.put, List.setIfInBounds_toArray, List.set_cons_succ, List.set_cons_zero]
        refine wpAnyT_take (i := 8) rfl (by kernel_rfl) (by kernel_rfl) (by kernel_rfl) (by kernel_rfl) (by kernel_rfl) (by rfl) hS9 ?_; apply Exists.intro; refine ⟨fun _ _ _ h => h, fun w9 hT9 => ?_, ?_⟩
        · (try dsimp only at hT9); go_simp; first | done | with_reducible rfl | rfl
        simp only [Act.put, List.setIfInBounds_toArray, List.set_cons_succ, List.set_cons_zero]
        refine wpAnyT_take (i := 9) rfl (by kernel_rfl) (by kernel_rfl) (by kernel_rfl) (by kernel_rfl) (by kernel_rfl) (by rfl) hS9 ?_; apply Exists.intro; refine ⟨fun _ _ _ h => h, fun w9 hT9 => ?_, ?_⟩
        · (try dsimp only at hT9); go_simp; first | done | with_reducible rfl | rfl
        simp only [Act.put, List.setIfInBounds_toArray, List.set_cons_succ, List.set_cons_zero]
        refine wpAnyT_take (i := 10) rfl (by kernel_rfl) (by kernel_rfl) (by kernel_rfl) (by kernel_rfl) (by kernel_rfl) (by rfl) hS9 ?_; apply Exists.intro; refine ⟨fun _ _ _ h => h, fun w9 hT9 => ?_, ?_⟩
        · (try dsimp only at hT9); go_simp; first | done | with_reducible rfl | rfl
        simp only [Act.put, List.setIfInBounds_toArray, List.set_cons_succ, List.set_cons_zero]
        refine wpAnyT_take (i := 11) rfl (by kernel_rfl) (by kernel_rfl) (by kernel_rfl) (by kernel_rfl) (by kernel_rfl) (by rfl) hS9 ?_; apply Exists.intro; refine ⟨fun _ _ _ h => h, fun w9 hT9 => ?_, ?_⟩
        · (try dsimp only at hT9); go_simp; first | done | with_reducible rfl | rfl
        simp only [Act.put, List.setIfInBounds_toArray, List.set_cons_succ, List.set_cons_zero]
        refine wpAnyT_take (i := 12) rfl (by kernel_rfl) (by kernel_rfl) (by kernel_rfl) (by kernel_rfl) (by kernel_rfl) (by rfl) hS9 ?_; apply Exists.intro; refine ⟨fun _ _ _ h => h, fun w9 hT9 => ?_, ?_⟩
        · (try dsimp only at hT9); go_simp; first | done | with_reducible rfl | rfl
        simp only [Act.put, List.setIfInBounds_toArray, List.set_cons_succ, List.set_cons_zero]
        refine wpAnyT_take (i := 13) rfl (by kernel_rfl) (by kernel_rfl) (by kernel_rfl) (by kernel_rfl) (by kernel_rfl) (by rfl) hS9 ?_; apply Exists.intro; refine ⟨fun _ _ _ h => h, fun w9 hT9 => ?_, ?_⟩
        · (try dsimp only at hT9); go_simp; first | done | with_reducible rfl | rfl
        simp only [Act.put, List.setIfInBounds_toArray, List.set_cons_succ, List.set_cons_zero]
        refine wpAnyT_take (i := 14) rfl (by kernel_rfl) (by kernel_rfl) (by kernel_rfl) (by kernel_rfl) (by kernel_rfl) (by rfl) hS9 ?_; apply Exists.intro; refine ⟨fun _ _ _ h => h, fun w9 hT9 => ?_, ?_⟩
        · (try dsimp only at hT9); obtain ⟨hcc9, hff9⟩ := bcell hT9; go_simp; first | done | with_reducible rfl | rfl
        simp only [Act.put, List.setIfInBounds_toArray, List.set_cons_succ, List.set_cons_zero]
        refine wpAnyT_take (i := 15) rfl (by kernel_rfl) (by kernel_rfl) (by kernel_rfl) (by kernel_rfl) (by kernel_rfl) (by rfl) hS9 ?_; apply Exists.intro; refine ⟨fun _ _ _ h => h, fun w9 hT9 => ?_, ?_⟩
        · (try dsimp only at hT9); go_simp; first | done | with_reducible rfl | rfl
        simp only [Act.put, List.setIfInBounds_toArray, List.set_cons_succ, List.set_cons_zero]
        refine wpAnyT_take (i := 16) rfl (by kernel_rfl) (by kernel_rfl) (by kernel_rfl) (by kernel_rfl) (by kernel_rfl) (by rfl) hS9 ?_; apply Exists.intro; refine ⟨fun _ _ _ h => h, fun w9 hT9 => ?_, ?_⟩
        · (try dsimp only at hT9); go_simp; first | done | with_reducible rfl | rfl
        simp only [Act.put, List.setIfInBounds_toArray, List.set_cons_succ, List.set_cons_zero]
        refine wpAnyT_one (i := 17) rfl (by kernel_rfl) (fun K9 hK9 => ?_)
        go_simp
        refine hK9.out _ _ ?_ (fun hT9 => ?_)
        · (try dsimp only); (first | exact hS9 | exact bel_call hS9 hb | exact bel_alloc hS9 _ | exact hS9.setCell (by simp <;> omega) _)
        clear hK9 K9 hS9; have hS9 := hT9; clear hT9
        (try simp only [Act.put, List.setIfInBounds_toArray, List.set_cons_succ, List.set_cons_zero])
        refine wpAnyT_free (i := 18) rfl (by kernel_rfl) (by kernel_rfl) (fun K9 hK9 => ?_)
        refine step_of_list rfl ?_; refine wpList_append_cells (v := .slice ao5 (k + 1) cap5) (w := w5.drew) (base := w.heap.size) (size := 4) (n := k + 1) (xs := xs.take (k * 4) ++ [.int .i64 id, .slice fo r.2.1.length fc, .slice ko key.length kc, .int .i64 (r.2.2.2 + 1)]) (.tmp 116) (.tmp 133) _ rfl rfl i0 _ 64 Try.underlying29 HI.out HZ0.out HZ1.out HZ2.out rfl (by decide) [.int .i64 other, .slice ko key.length kc, .slice to r.2.2.1.length tc, .int .i64 (r.2.2.2 + 1)] rfl (by intro u hu; simp only [List.mem_cons, List.not_mem_nil, or_false] at hu; rcases hu with rfl | rfl | rfl | rfl <;> rfl) rfl rfl (by exact own_drewN HO5.out 1) (by omega) (by omega) z5 ?_; intro v6 w6 ho6 hb6 hk6; obtain ⟨ao6, cap6, rfl, -, -, -, -⟩ := own_form ho6; have HO6 := Lib.hid ho6; have HB6 := Lib.hid hb6; clear ho6 hb6 hk6; refine list_done ?_
        refine hK9.out _ _ ?_; clear hK9 K9
        (try simp only [Act.put, List.setIfInBounds_toArray, List.set_cons_succ, List.set_cons_zero])
        refine wpAnyT_free (i := 19) rfl (by kernel_rfl) (by kernel_rfl) (fun K9 hK9 => ?_)
        go_simp
        refine hK9.out _ _ ?_; clear hK9 K9
        (try simp only [Act.put, List.setIfInBounds_toArray, List.set_cons_succ, List.set_cons_zero])
        refine wpAnyT_done (by kernel_rfl) ?_ _; have HS9 := Lib.hid hS9; clear hS9
        have G6 : Hid (Below w.heap.size w w6) := Lib.hid (bel_own G5.out.drew HB6.out (own_drewN HO5.out 1))
        have z6 := G6.out.size
        have O7 := Lib.hid (own_below HRO.out G6.out)
        clear d2 d3
        have HNEWS : Hid (∀ j u, (xs.drop ((k + 1) * 4))[j]? = some u → w6.cell? ⟨g, (k + 1) * 4 + j, none⟩ = some u) := Lib.hid (fun j u hj => own_cell' O7.out (by rw [List.getElem?_drop] at hj; exact hj))
        have HCELLS : Hid (xs.take (k * 4) ++ [Value.int .i64 id, Value.slice fo r.2.1.length fc, Value.slice ko key.length kc, Value.int .i64 (r.2.2.2 + 1)] ++ [Value.int .i64 other, Value.slice ko key.length kc, Value.slice to r.2.2.1.length tc, Value.int .i64 (r.2.2.2 + 1)] ++ xs.drop ((k + 1) * 4) = (rs.take k ++ [((id, r.2.1, key, r.2.2.2 + 1), Value.slice fo r.2.1.length fc, Value.slice ko key.length kc), ((other, key, r.2.2.1, r.2.2.2 + 1), Value.slice ko key.length kc, Value.slice to r.2.2.1.length tc)] ++ rs.drop (k + 1)).flatMap cells4) := Lib.hid (by
          rw [← HXS.out, flat_take cells4_len, flat_drop cells4_len]
          simp only [List.flatMap_append, List.flatMap_cons, List.flatMap_nil, List.append_nil, List.append_assoc]
          rfl)
        have HLEN : Hid (k + 1 + 1 + (l.length - (k + 1)) = (splitL l k r id other key).length) := Lib.hid (by
          unfold splitL
          simp only [List.length_append, List.length_take, List.length_drop, List.length_cons, List.length_nil]
          omega)
        have HFIN : Hid (∀ v7 w7, w7.ownsRow w.heap.size 39 4 v7 (k + 1 + 1 + (l.length - (k + 1))) (xs.take (k * 4) ++ [.int .i64 id, .slice fo r.2.1.length fc, .slice ko key.length kc, .int .i64 (r.2.2.2 + 1)] ++ [.int .i64 other, .slice ko key.length kc, .slice to r.2.2.1.length tc, .int .i64 (r.2.2.2 + 1)] ++ xs.drop ((k + 1) * 4)) → Below w.heap.size w w7 → RSplitP w0 base (.slice (some ⟨g, 0, none⟩) l.length cap) (splitE l id other key) (splitR l id other key) w (.returned (.tuple #[v7, .int .i64 0])) w7) := Lib.hid (fun v7 w7 ho hb => by
          have e1 : splitR l id other key = splitL l k r id other key := by
            unfold splitR
            rw [HOK.out, if_pos rfl, HIX.out]
            congr 1
            rw [Int.toNat_natCast, List.getD_eq_getElem?_getD, HRK.out]; rfl
          rw [HOK.out, e1]
          rw [HCELLS.out, HLEN.out] at ho
          have hI : I64 (r.2.2.2 + 1) := by unfold I64; omega
          have hrow : RowB w0 w.heap.size w7 v7 (splitL l k r id other key) := ⟨_, by
            unfold splitL
            simp only [List.map_append, List.map_take, List.map_drop, List.map_cons, List.map_nil]
            rw [HRS.out], ho, fun q hq => by
            rcases List.mem_append.1 hq with hq | hq
            · rcases List.mem_append.1 hq with hq | hq
              · exact HRG.out q (List.mem_of_mem_take hq)
              · simp only [List.mem_cons, List.not_mem_nil, or_false] at hq
                rcases hq with rfl | rfl
                · exact ⟨hfv'.out, HK.out, HID.out, hI⟩
                · exact ⟨HK.out, htv'.out, HOTH.out, hI⟩
            · exact HRG.out q (List.mem_of_mem_drop hq)⟩
          refine ⟨v7, rfl, hrow.mono HBASE.out, .inr ?_, hb⟩
          obtain ⟨gg, cc, hv⟩ := hrow.slice (fun h => by have := congrArg List.length h; rw [← HLEN.out] at this; simp at this)
          refine ⟨gg, by rw [hv]; rfl, ?_⟩
          rw [hv] at ho
          exact (own_lt ho).1)
        by_cases hcp : cap = k + 1
        · subst hcp
          have u1 : k + 1 - (k + 1) = 0 := by omega
          have u3 : l.length - (k + 1) = 0 := by omega
          go_wp2_with (at_builtin; (refine wpList_append_own_at (w := w6) rfl (.tmp 135) (.tmp 139) _ rfl w.heap.size 39 i0 _ 4 64 Try.underlying29 HI.out HZ0.out HZ1.out HZ2.out rfl (by decide) (.slice ao6 (k + 1 + 1) cap6) (k + 1 + 1) (xs.take (k * 4) ++ [.int .i64 id, .slice fo r.2.1.length fc, .slice ko key.length kc, .int .i64 (r.2.2.2 + 1)] ++ [.int .i64 other, .slice ko key.length kc, .slice to r.2.2.1.length tc, .int .i64 (r.2.2.2 + 1)]) rfl HO6.out _ _ _ [] rfl rfl (fun j u hj => by simp at hj) (fun u hu => by cases hu) (by simp only [maxLen]; omega) (by omega) z6 ?_; intro v7 w7 ho7 hb7 _ hk7; obtain ⟨ao7, cap7, rfl, -, -, -, -⟩ := own_form ho7; have HO7 := Lib.hid ho7; have HB7 := Lib.hid hb7; clear ho7 hb7 hk7))
          have G7 : Hid (Below w.heap.size w w7) := Lib.hid (bel_own G6.out HB7.out HO6.out)
          have HO8 := HO7.out
          rw [List.append_nil] at HO8
          go_ret2
          refine HFIN.out _ _ ?_ G7.out
          rw [show xs.drop ((k + 1) * 4) = [] from List.drop_eq_nil_of_le (by rw [HXL.out]; omega), List.append_nil]
          first | exact HO8 | (rw [u3]; exact HO8)
        · have u1 : ¬ cap = k + 1 := hcp
          have u2 : k + 1 < cap := by omega
          go_wp2_with (at_builtin; refine wpList_append_own_at (w := w6) rfl (.tmp 135) (.tmp 139) _ rfl w.heap.size 39 i0 _ 4 64 Try.underlying29 HI.out HZ0.out HZ1.out HZ2.out rfl (by decide) (.slice ao6 (k + 1 + 1) cap6) (k + 1 + 1) (xs.take (k * 4) ++ [.int .i64 id, .slice fo r.2.1.length fc, .slice ko key.length kc, .int .i64 (r.2.2.2 + 1)] ++ [.int .i64 other, .slice ko key.length kc, .slice to r.2.2.1.length tc, .int .i64 (r.2.2.2 + 1)]) rfl HO6.out ⟨g, (k + 1) * 4, none⟩ (l.length - (k + 1)) _ (xs.drop ((k + 1) * 4)) rfl (by rw [List.length_drop, HXL.out]; omega) (fun j u hj => by rw [plain_add']; exact HNEWS.out j u hj) (fun u hu => HX1.out u (List.mem_of_mem_drop hu)) (by simp only [maxLen]; omega) (by omega) z6 ?_; intro v7 w7 ho7 hb7 _ hk7; obtain ⟨ao7, cap7, rfl, -, -, -, -⟩ := own_form ho7; have HO7 := Lib.hid ho7; have HB7 := Lib.hid hb7; clear ho7 hb7 hk7)
          have G7 : Hid (Below w.heap.size w w7) := Lib.hid (bel_own G6.out HB7.out HO6.out)
          go_ret2
          exact HFIN.out _ _ HO7.out G7.out
end Rm
end Go.Proofs.Ytbeniogffhihlaa
