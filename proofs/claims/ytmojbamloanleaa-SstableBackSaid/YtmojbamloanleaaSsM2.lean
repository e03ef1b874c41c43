/- memtable: entries compared; the law's sameOne, same, mark; the document's May and Compare; ahead. -/
import Derived.Test.YtmojbamloanleaaMt1
import Derived.Test.YtmojbamloanleaaLex
set_option linter.unusedVariables false
set_option linter.unusedSimpArgs false
namespace Go.Proofs.Ytmojbamloanleaa
open Go.RowKit
namespace Mt
def enR (w : World) (cs : List Value) (x : En) : Prop := ∃ kv vv, cs = [kv, .int .u64 x.2.1, .bool x.2.2.1, vv] ∧ IsB w kv x.1 ∧ IsB w vv x.2.2.2 ∧ U64 x.2.1
theorem enR_stays : Stays enR := fun w w' cs x hb ⟨kv, vv, h1, h2, h3, h4⟩ => ⟨kv, vv, h1, h2.below hb, h3.below hb, h4⟩
abbrev IsEs (w : World) (v : Value) (l : List En) : Prop := IsL 4 enR w v l
theorem IsEs.at4 {w : World} {ao : Option Addr} {n cap k : Nat} {l : List En} (h : IsEs w (.slice ao n cap) l) (hk : k < l.length) :
    ∃ b o x kv vv, ao = some ⟨b, o, none⟩ ∧ b < w.heap.size ∧ Hid (l[k]? = some x) ∧ w.cell? ⟨b, o + k * 4, none⟩ = some kv ∧ w.cell? ⟨b, o + k * 4 + 1, none⟩ = some (.int .u64 x.2.1) ∧ w.cell? ⟨b, o + k * 4 + 2, none⟩ = some (.bool x.2.2.1) ∧ w.cell? ⟨b, o + k * 4 + 3, none⟩ = some vv ∧ Hid (IsB w kv x.1) ∧ Hid (IsB w vv x.2.2.2) ∧ U64 x.2.1 := by
  obtain ⟨b, o, x, cs, h1, h2, h3, h4, h5, kv, vv, rfl, h6, h7, h8⟩ := h.at_ hk
  exact ⟨b, o, x, kv, vv, h1, h2, h3, h5.out 0 _ rfl, h5.out 1 _ rfl, h5.out 2 _ rfl, h5.out 3 _ rfl, h6, h7, h8⟩
def entryT : Nat := 46
set_option maxRecDepth 100000 in
set_option maxHeartbeats 4000000 in
theorem sameOne_any (kv vv kv' vv' : Value) (x y : En) (w : World) (hk : IsB w kv x.1) (hv : IsB w vv x.2.2.2) (hk' : IsB w kv' y.1) (hv' : IsB w vv' y.2.2.2) :
    Calls Try.prog 19 #[.agg #[kv, .int .u64 x.2.1, .bool x.2.2.1, vv], .agg #[kv', .int .u64 y.2.1, .bool y.2.2.1, vv']] w (Ret (.bool (decide (x = y))) w) := by
  obtain ⟨ko, kc, rfl, -, -, -⟩ := hk.form
  obtain ⟨vo, vc, rfl, -, -, -⟩ := hv.form
  obtain ⟨ko', kc', rfl, -, -, -⟩ := hk'.form
  obtain ⟨vo', vc', rfl, -, -, -⟩ := hv'.form
  obtain ⟨key, seq, del, val⟩ := x
  obtain ⟨key', seq', del', val'⟩ := y
  simp only at hk hv hk' hv' ⊢
  have r1 := str_beq hk.rng hk'.rng
  have r2 := str_beq hv.rng hv'.rng
  have up : ∀ {u : Value} {l : List Int}, IsB w u l → (convert 25 9 u).run Try.prog ((w.alloc (.cells #[.slice ko key.length kc, .int .u64 seq, .bool del, .slice vo val.length vc] 46)).alloc (.cells #[.slice ko' key'.length kc', .int .u64 seq', .bool del', .slice vo' val'.length vc'] 46)) = .ok (.string (strOfNums l)) _ := fun h => ((h.alloc _).alloc _).conv Try.underlying25 Try.underlying5 Try.underlying9
  have h1 := up hk
  have h2 := up hv
  have h3 := up hk'
  have h4 := up hv'
  have hD : decide ((key, seq, del, val) = (key', seq', del', val')) = (decide (key = key') && ((seq == seq') && ((del == del') && decide (val = val')))) := by
    rw [Bool.eq_iff_iff]
    simp only [decide_eq_true_eq, Prod.mk.injEq, Bool.and_eq_true, beq_iff_eq]
  rw [hD]
  clear hk hv hk' hv' up hD
  by_cases c1 : key = key'
  · rw [decide_eq_true c1] at r1 ⊢
    by_cases c2 : seq = seq'
    · have r3 : (seq == seq') = true := by simp [c2]
      rw [r3]
      by_cases c3 : del = del'
      · have r4 : (del == del') = true := by simp [c3]
        rw [r4]
        generalize decide (val = val') = d at *
        clear c1 c2 c3
        go_enter Try.func19, Try.ntmps19
        go_wp2_with fail
        go_ret
        exact ⟨by simp, (by repeat' (first | (with_reducible exact Below.refl _ _) | (with_reducible assumption) | (with_reducible refine Below.drew ?_) | (with_reducible refine below_drewN ?_ _) | (with_reducible refine bel_alloc ?_ _) | (with_reducible refine Below.setCell ?_ ?_ _) | (with_reducible refine bel_call ?_ (by assumption)) | (simp <;> omega)))⟩
      · have r4 : (del == del') = false := by simp [c3]
        rw [r4]
        clear c1 c2 c3 r2
        go_enter Try.func19, Try.ntmps19
        go_wp2_with fail
        go_ret
        exact ⟨by simp, (by repeat' (first | (with_reducible exact Below.refl _ _) | (with_reducible assumption) | (with_reducible refine Below.drew ?_) | (with_reducible refine below_drewN ?_ _) | (with_reducible refine bel_alloc ?_ _) | (with_reducible refine Below.setCell ?_ ?_ _) | (with_reducible refine bel_call ?_ (by assumption)) | (simp <;> omega)))⟩
    · have r3 : (seq == seq') = false := by simp [c2]
      rw [r3]
      clear c1 c2 r2
      go_enter Try.func19, Try.ntmps19
      go_wp2_with fail
      go_ret
      exact ⟨by simp, (by repeat' (first | (with_reducible exact Below.refl _ _) | (with_reducible assumption) | (with_reducible refine Below.drew ?_) | (with_reducible refine below_drewN ?_ _) | (with_reducible refine bel_alloc ?_ _) | (with_reducible refine Below.setCell ?_ ?_ _) | (with_reducible refine bel_call ?_ (by assumption)) | (simp <;> omega)))⟩
  · rw [decide_eq_false c1] at r1 ⊢
    clear c1 r2
    go_enter Try.func19, Try.ntmps19
    go_wp2_with fail
    go_ret
    exact ⟨by simp, (by repeat' (first | (with_reducible exact Below.refl _ _) | (with_reducible assumption) | (with_reducible refine Below.drew ?_) | (with_reducible refine below_drewN ?_ _) | (with_reducible refine bel_alloc ?_ _) | (with_reducible refine Below.setCell ?_ ?_ _) | (with_reducible refine bel_call ?_ (by assumption)) | (simp <;> omega)))⟩
set_option maxRecDepth 100000 in
set_option maxHeartbeats 4000000 in
theorem same_any (v u : Value) (l m : List En) (w : World) (hv : IsEs w v l) (hu : IsEs w u m) : Calls Try.prog 12 #[v, u] w (Ret (.bool (decide (l = m))) w) := by
  have hml := hv.max
  have hmm := hu.max
  obtain ⟨ao, cap, rfl, -, -, -⟩ := hv.form
  obtain ⟨bo, bcap, rfl, -, -, -⟩ := hu.form
  have HL := Lib.hid hv
  have HM := Lib.hid hu
  clear hv hu
  by_cases hlen : l.length = m.length
  · have q : ((l.length : Int) != (m.length : Int)) = false := by simp [hlen]
    have HN := Lib.hid hlen
    clear hlen
    go_enter Try.func12, Try.ntmps12
    go_wp2_with fail
    go_loopw [5] (fun i wr => ∃ k : Nat, k ≤ l.length ∧ i = .int .i64 k ∧ Hid (l.take k = m.take k) ∧ Hid (Below w.heap.size w wr)) (fun i _ => l.length - (intOf i).toNat)
    case atStart => exact ⟨0, by omega, rfl, rfl, Below.refl _ _⟩
    case round =>
      obtain ⟨k, hk, rfl, hall, hbel⟩ := hrel
      by_cases hlt : k < l.length
      · obtain ⟨b, o, x, kv, vv, hao, hbb, hx, c0', c1', c2', c3', hkv, hvv, -⟩ := IsEs.at4 HL.out hlt
        obtain ⟨b2, o2, y, kv2, vv2, hao2, hbb2, hy, d0', d1', d2', d3', hkv2, hvv2, -⟩ := IsEs.at4 HM.out (k := k) (by have := HN.out; omega)
        subst hao hao2
        have hl2 : k < m.length := by have := HN.out; omega
        have hI1 : (k : Int) < l.length := by omega
        have hI2 : (k : Int) < m.length := by omega
        have c0 := (hbel.out.cell (p := ⟨b, o + k * 4, none⟩) hbb).trans c0'
        have c1 := (hbel.out.cell (p := ⟨b, o + k * 4 + 1, none⟩) hbb).trans c1'
        have c2 := (hbel.out.cell (p := ⟨b, o + k * 4 + 2, none⟩) hbb).trans c2'
        have c3 := (hbel.out.cell (p := ⟨b, o + k * 4 + 3, none⟩) hbb).trans c3'
        have d0 := (hbel.out.cell (p := ⟨b2, o2 + k * 4, none⟩) hbb2).trans d0'
        have d1 := (hbel.out.cell (p := ⟨b2, o2 + k * 4 + 1, none⟩) hbb2).trans d1'
        have d2 := (hbel.out.cell (p := ⟨b2, o2 + k * 4 + 2, none⟩) hbb2).trans d2'
        have d3 := (hbel.out.cell (p := ⟨b2, o2 + k * 4 + 3, none⟩) hbb2).trans d3'
        have z1 : b < wr.heap.size := Nat.lt_of_lt_of_le hbb hbel.out.size
        have z2 : b2 < wr.heap.size := Nat.lt_of_lt_of_le hbb2 hbel.out.size
        have HC := Lib.hid (sameOne_any _ _ _ _ x y wr.drew (hkv.out.below hbel.out).drew (hvv.out.below hbel.out).drew (hkv2.out.below hbel.out).drew (hvv2.out.below hbel.out).drew)
        have hw1 := IntWalk.i64_in ((k : Int) + 1) (by omega)
        clear c0' c1' c2' c3' d0' d1' d2' d3' hkv hvv hkv2 hvv2
        go_wp2_with fail
        refine wp_region_T (fun w' => Below wr.heap.size wr w') [8, 9] (by kernel_rfl) ?_ (fun hS9 => ?_)
        · exact (Below.refl _ _).drew
        refine wpAnyT_take (i := 0) rfl (by kernel_rfl) (by kernel_rfl) (by kernel_rfl) (by kernel_rfl) (by kernel_rfl) (by rfl) hS9 ?_; apply Exists.intro; refine ⟨fun _ _ _ h => h, fun w9 hT9 => ?_, ?_⟩
        · (try dsimp only at hT9); go_simp; first | done | with_reducible rfl | rfl
        simp only [Act.put, List.setIfInBounds_toArray, List.set_cons_succ, List.set_cons_zero]
        refine wpAnyT_take (i := 1) rfl (by kernel_rfl) (by kernel_rfl) (by kernel_rfl) (by kernel_rfl) (by kernel_rfl) (by rfl) hS9 ?_; apply Exists.intro; refine ⟨fun _ _ _ h => h, fun w9 hT9 => ?_, ?_⟩
        · (try dsimp only at hT9); go_simp; first | done | with_reducible rfl | rfl
        simp only [Act.put, List.setIfInBounds_toArray, List.set_cons_succ, List.set_cons_zero]
        refine wpAnyT_take (i := 2) rfl (by kernel_rfl) (by kernel_rfl) (by kernel_rfl) (by kernel_rfl) (by kernel_rfl) (by rfl) hS9 ?_; apply Exists.intro; refine ⟨fun _ _ _ h => h, fun w9 hT9 => ?_, ?_⟩
        · (try dsimp only at hT9); go_simp; first | done | with_reducible rfl | rfl
        simp only [Act.put, List.setIfInBounds_toArray, List.set_cons_succ, List.set_cons_zero]
        refine wpAnyT_take (i := 3) rfl (by kernel_rfl) (by kernel_rfl) (by kernel_rfl) (by kernel_rfl) (by kernel_rfl) (by rfl) hS9 ?_; apply Exists.intro; refine ⟨fun _ _ _ h => h, fun w9 hT9 => ?_, ?_⟩
        · (try dsimp only at hT9); obtain ⟨hcc9, hff9⟩ := bcell hT9; go_simp; first | done | with_reducible rfl | rfl
        simp only [Act.put, List.setIfInBounds_toArray, List.set_cons_succ, List.set_cons_zero]
        refine wpAnyT_take (i := 4) rfl (by kernel_rfl) (by kernel_rfl) (by kernel_rfl) (by kernel_rfl) (by kernel_rfl) (by rfl) hS9 ?_; apply Exists.intro; refine ⟨fun _ _ _ h => h, fun w9 hT9 => ?_, ?_⟩
        · (try dsimp only at hT9); go_simp; first | done | with_reducible rfl | rfl
        simp only [Act.put, List.setIfInBounds_toArray, List.set_cons_succ, List.set_cons_zero]
        refine wpAnyT_take (i := 5) rfl (by kernel_rfl) (by kernel_rfl) (by kernel_rfl) (by kernel_rfl) (by kernel_rfl) (by rfl) hS9 ?_; apply Exists.intro; refine ⟨fun _ _ _ h => h, fun w9 hT9 => ?_, ?_⟩
        · (try dsimp only at hT9); go_simp; first | done | with_reducible rfl | rfl
        simp only [Act.put, List.setIfInBounds_toArray, List.set_cons_succ, List.set_cons_zero]
        refine wpAnyT_take (i := 6) rfl (by kernel_rfl) (by kernel_rfl) (by kernel_rfl) (by kernel_rfl) (by kernel_rfl) (by rfl) hS9 ?_; apply Exists.intro; refine ⟨fun _ _ _ h => h, fun w9 hT9 => ?_, ?_⟩
        · (try dsimp only at hT9); go_simp; first | done | with_reducible rfl | rfl
        simp only [Act.put, List.setIfInBounds_toArray, List.set_cons_succ, List.set_cons_zero]
        refine wpAnyT_take (i := 7) rfl (by kernel_rfl) (by kernel_rfl) (by kernel_rfl) (by kernel_rfl) (by kernel_rfl) (by rfl) hS9 ?_; apply Exists.intro; refine ⟨fun _ _ _ h => h, fun w9 hT9 => ?_, ?_⟩
        · (try dsimp only at hT9); obtain ⟨hcc9, hff9⟩ := bcell hT9; go_simp; first | done | with_reducible rfl | rfl
        simp only [Act.put, List.setIfInBounds_toArray, List.set_cons_succ, List.set_cons_zero]
        refine wpAnyT_free (i := 8) rfl (by kernel_rfl) (by kernel_rfl) (fun K9 hK9 => ?_)
        go_simp; (with_reducible refine Calls.mono HC.out ?_); rintro e w2 ⟨rfl, hb⟩; have HB2 := Lib.hid (bel_call hbel.out (bel_of_drew hb))
        refine hK9.out _ _ ?_; clear hK9 K9
        (try simp only [Act.put, List.setIfInBounds_toArray, List.set_cons_succ, List.set_cons_zero])
        refine wpAnyT_free (i := 9) rfl (by kernel_rfl) (by kernel_rfl) (fun K9 hK9 => ?_)
        go_simp
        refine hK9.out _ _ ?_; clear hK9 K9
        (try simp only [Act.put, List.setIfInBounds_toArray, List.set_cons_succ, List.set_cons_zero])
        refine wpAnyT_done (by kernel_rfl) ?_ _; have HS9 := Lib.hid hS9; clear hS9
        by_cases hxy : x = y
        · rw [decide_eq_true hxy]
          have HA : Hid (l.take (k + 1) = m.take (k + 1)) := Lib.hid (by rw [take_snoc hx.out, take_snoc hy.out, hall.out, hxy])
          clear hxy
          go_wp2_with fail
          go_roundw
          case rel => exact ⟨k + 1, by omega, by go_num, HA.out, HB2.out⟩
          case measure => simp [intOf]; omega
        · have HE : Hid (decide (l = m) = false) := Lib.hid (decide_eq_false fun h => hxy (by have h1 := hx.out; have h2 := hy.out; rw [h, h2] at h1; exact (Option.some.inj h1).symm))
          rw [decide_eq_false hxy]
          clear hxy
          go_wp2_with fail
          go_ret
          exact ⟨by rw [HE.out]; rfl, HB2.out⟩
      · have hkl : k = l.length := by omega
        subst hkl
        have HE : Hid (decide (l = m) = true) := Lib.hid (decide_eq_true (by have h1 := hall.out; rw [List.take_length] at h1; rw [h1, HN.out, List.take_length]))
        go_wp2_with fail
        go_ret
        exact ⟨by rw [HE.out]; rfl, hbel.out⟩
  · have q : ((l.length : Int) != (m.length : Int)) = true := by rw [bne_iff_ne]; omega
    have HE : Hid (decide (l = m) = false) := Lib.hid (decide_eq_false fun h => hlen (by rw [h]))
    clear hlen
    go_enter Try.func12, Try.ntmps12
    go_wp2_with fail
    go_ret
    exact ⟨by rw [HE.out]; rfl, Below.refl _ _⟩
/-- a node's entry stands ahead of a place -/
def aheadB (x : En) (key : List Int) (seq : Int) : Bool := decide (cmpB x.1 key < 0) || (decide (cmpB x.1 key = 0) && decide (seq < x.2.1))
/-- what may be an entry -/
def mayB (x : En) : Bool := decide (1 ≤ x.1.length) && (decide (x.1.length ≤ 256) && (decide (1 ≤ x.2.1) && (decide (x.2.1 ≤ 4611686018427387904) && (decide (x.2.2.2.length ≤ 65536) && (!x.2.2.1 || decide (x.2.2.2.length = 0))))))
set_option maxRecDepth 100000 in
set_option maxHeartbeats 4000000 in
theorem may_any (kv vv : Value) (x : En) (w : World) (hk : IsB w kv x.1) (hv : IsB w vv x.2.2.2) : Calls Try.prog 29 #[.agg #[kv, .int .u64 x.2.1, .bool x.2.2.1, vv]] w (Ret (.bool (mayB x)) w) := by
  obtain ⟨ko, kc, rfl, -, -, -⟩ := hk.form
  obtain ⟨vo, vc, rfl, -, -, -⟩ := hv.form
  have m1 := hk.max
  have m2 := hv.max
  obtain ⟨key, seq, del, val⟩ := x
  simp only at hk hv m1 m2 ⊢
  have hE : mayB (key, seq, del, val) = (decide (1 ≤ key.length) && (decide (key.length ≤ 256) && (decide (1 ≤ seq) && (decide (seq ≤ 4611686018427387904) && (decide (val.length ≤ 65536) && (!del || decide (val.length = 0))))))) := rfl
  clear hk hv
  by_cases h0 : 1 ≤ key.length
  · rw [decide_eq_true h0, Bool.true_and] at hE
    have q0 : (1 : Int) ≤ key.length := by omega
    clear h0
    by_cases h1 : key.length ≤ 256
    · rw [decide_eq_true h1, Bool.true_and] at hE
      have q1 : (key.length : Int) ≤ 256 := by omega
      clear h1
      by_cases h2 : 1 ≤ seq
      · rw [decide_eq_true h2, Bool.true_and] at hE
        have q2 : 1 ≤ seq := by omega
        clear h2
        by_cases h3 : seq ≤ 4611686018427387904
        · rw [decide_eq_true h3, Bool.true_and] at hE
          have q3 : seq ≤ 4611686018427387904 := by omega
          clear h3
          by_cases h4 : val.length ≤ 65536
          · rw [decide_eq_true h4, Bool.true_and] at hE
            have q4 : (val.length : Int) ≤ 65536 := by omega
            clear h4
            cases del
            · rw [Bool.not_false, Bool.true_or] at hE
              have HE := Lib.hid hE
              clear hE
              go_enter Try.func29, Try.ntmps29
              go_wp2_with fail
              go_ret
              exact ⟨by rw [HE.out]; rfl, (by repeat' (first | (with_reducible exact Below.refl _ _) | (with_reducible assumption) | (with_reducible refine Below.drew ?_) | (with_reducible refine below_drewN ?_ _) | (with_reducible refine bel_alloc ?_ _) | (with_reducible refine Below.setCell ?_ ?_ _) | (with_reducible refine bel_call ?_ (by assumption)) | (simp <;> omega)))⟩
            · rw [Bool.not_true, Bool.false_or] at hE
              by_cases h9 : val.length = 0
              · rw [decide_eq_true h9] at hE
                have q9 : ((val.length : Int) == 0) = true := by rw [beq_iff_eq]; omega
                clear h9
                have HE := Lib.hid hE
                clear hE
                go_enter Try.func29, Try.ntmps29
                go_wp2_with fail
                go_ret
                exact ⟨by rw [HE.out]; rfl, (by repeat' (first | (with_reducible exact Below.refl _ _) | (with_reducible assumption) | (with_reducible refine Below.drew ?_) | (with_reducible refine below_drewN ?_ _) | (with_reducible refine bel_alloc ?_ _) | (with_reducible refine Below.setCell ?_ ?_ _) | (with_reducible refine bel_call ?_ (by assumption)) | (simp <;> omega)))⟩
              · rw [decide_eq_false h9] at hE
                have q9 : ((val.length : Int) == 0) = false := beq_eq_false_iff_ne.2 (by omega)
                clear h9
                have HE := Lib.hid hE
                clear hE
                go_enter Try.func29, Try.ntmps29
                go_wp2_with fail
                go_ret
                exact ⟨by rw [HE.out]; rfl, (by repeat' (first | (with_reducible exact Below.refl _ _) | (with_reducible assumption) | (with_reducible refine Below.drew ?_) | (with_reducible refine below_drewN ?_ _) | (with_reducible refine bel_alloc ?_ _) | (with_reducible refine Below.setCell ?_ ?_ _) | (with_reducible refine bel_call ?_ (by assumption)) | (simp <;> omega)))⟩
          · rw [decide_eq_false h4, Bool.false_and] at hE
            have q4 : ¬ (val.length : Int) ≤ 65536 := by omega
            clear h4
            have HE := Lib.hid hE
            clear hE
            go_enter Try.func29, Try.ntmps29
            go_wp2_with fail
            go_ret
            exact ⟨by rw [HE.out]; rfl, (by repeat' (first | (with_reducible exact Below.refl _ _) | (with_reducible assumption) | (with_reducible refine Below.drew ?_) | (with_reducible refine below_drewN ?_ _) | (with_reducible refine bel_alloc ?_ _) | (with_reducible refine Below.setCell ?_ ?_ _) | (with_reducible refine bel_call ?_ (by assumption)) | (simp <;> omega)))⟩
        · rw [decide_eq_false h3, Bool.false_and] at hE
          have q3 : ¬ seq ≤ 4611686018427387904 := by omega
          clear h3
          have HE := Lib.hid hE
          clear hE
          go_enter Try.func29, Try.ntmps29
          go_wp2_with fail
          go_ret
          exact ⟨by rw [HE.out]; rfl, (by repeat' (first | (with_reducible exact Below.refl _ _) | (with_reducible assumption) | (with_reducible refine Below.drew ?_) | (with_reducible refine below_drewN ?_ _) | (with_reducible refine bel_alloc ?_ _) | (with_reducible refine Below.setCell ?_ ?_ _) | (with_reducible refine bel_call ?_ (by assumption)) | (simp <;> omega)))⟩
      · rw [decide_eq_false h2, Bool.false_and] at hE
        have q2 : ¬ 1 ≤ seq := by omega
        clear h2
        have HE := Lib.hid hE
        clear hE
        go_enter Try.func29, Try.ntmps29
        go_wp2_with fail
        go_ret
        exact ⟨by rw [HE.out]; rfl, (by repeat' (first | (with_reducible exact Below.refl _ _) | (with_reducible assumption) | (with_reducible refine Below.drew ?_) | (with_reducible refine below_drewN ?_ _) | (with_reducible refine bel_alloc ?_ _) | (with_reducible refine Below.setCell ?_ ?_ _) | (with_reducible refine bel_call ?_ (by assumption)) | (simp <;> omega)))⟩
    · rw [decide_eq_false h1, Bool.false_and] at hE
      have q1 : ¬ (key.length : Int) ≤ 256 := by omega
      clear h1
      have HE := Lib.hid hE
      clear hE
      go_enter Try.func29, Try.ntmps29
      go_wp2_with fail
      go_ret
      exact ⟨by rw [HE.out]; rfl, (by repeat' (first | (with_reducible exact Below.refl _ _) | (with_reducible assumption) | (with_reducible refine Below.drew ?_) | (with_reducible refine below_drewN ?_ _) | (with_reducible refine bel_alloc ?_ _) | (with_reducible refine Below.setCell ?_ ?_ _) | (with_reducible refine bel_call ?_ (by assumption)) | (simp <;> omega)))⟩
  · rw [decide_eq_false h0, Bool.false_and] at hE
    have q0 : ¬ (1 : Int) ≤ key.length := by omega
    clear h0
    have HE := Lib.hid hE
    clear hE
    go_enter Try.func29, Try.ntmps29
    go_wp2_with fail
    go_ret
    exact ⟨by rw [HE.out]; rfl, (by repeat' (first | (with_reducible exact Below.refl _ _) | (with_reducible assumption) | (with_reducible refine Below.drew ?_) | (with_reducible refine below_drewN ?_ _) | (with_reducible refine bel_alloc ?_ _) | (with_reducible refine Below.setCell ?_ ?_ _) | (with_reducible refine bel_call ?_ (by assumption)) | (simp <;> omega)))⟩
/-- the document's order of entries -/
def cmpE (x y : En) : Int := if cmpB x.1 y.1 ≠ 0 then cmpB x.1 y.1 else if y.2.1 < x.2.1 then -1 else if x.2.1 < y.2.1 then 1 else 0
set_option maxRecDepth 100000 in
set_option maxHeartbeats 4000000 in
theorem cmpE_any (kv vv kv' vv' : Value) (x y : En) (w : World) (hk : IsB w kv x.1) (hv : IsB w vv x.2.2.2) (hk' : IsB w kv' y.1) (hv' : IsB w vv' y.2.2.2) :
    Calls Try.prog 30 #[.agg #[kv, .int .u64 x.2.1, .bool x.2.2.1, vv], .agg #[kv', .int .u64 y.2.1, .bool y.2.2.1, vv']] w (Ret (.int .i64 (cmpE x y)) w) := by
  obtain ⟨ko, kc, rfl, -, -, -⟩ := hk.form
  obtain ⟨vo, vc, rfl, -, -, -⟩ := hv.form
  obtain ⟨ko', kc', rfl, -, -, -⟩ := hk'.form
  obtain ⟨vo', vc', rfl, -, -, -⟩ := hv'.form
  obtain ⟨key, seq, del, val⟩ := x
  obtain ⟨key', seq', del', val'⟩ := y
  simp only at hk hv hk' hv' ⊢
  have HC := Lib.hid (Codec.rCompare_any _ _ key key' ((w.alloc (.cells #[.slice ko key.length kc, .int .u64 seq, .bool del, .slice vo val.length vc] 46)).alloc (.cells #[.slice ko' key'.length kc', .int .u64 seq', .bool del', .slice vo' val'.length vc'] 46)) ((hk.alloc _).alloc _) ((hk'.alloc _).alloc _))
  have hE : cmpE (key, seq, del, val) (key', seq', del', val') = (if cmpB key key' ≠ 0 then cmpB key key' else if seq' < seq then -1 else if seq < seq' then 1 else 0) := rfl
  clear hk hv hk' hv'
  generalize cmpB key key' = c at *
  have step : ∀ w1, Below ((w.alloc (.cells #[.slice ko key.length kc, .int .u64 seq, .bool del, .slice vo val.length vc] 46)).alloc (.cells #[.slice ko' key'.length kc', .int .u64 seq', .bool del', .slice vo' val'.length vc'] 46)).heap.size ((w.alloc (.cells #[.slice ko key.length kc, .int .u64 seq, .bool del, .slice vo val.length vc] 46)).alloc (.cells #[.slice ko' key'.length kc', .int .u64 seq', .bool del', .slice vo' val'.length vc'] 46)) w1 →
      w1.cell? ⟨w.heap.size, 1, none⟩ = some (.int .u64 seq) ∧ w1.cell? ⟨w.heap.size + 1, 1, none⟩ = some (.int .u64 seq') ∧ Hid (Below w.heap.size w w1) := fun w1 hb =>
    ⟨(hb.cell (p := ⟨w.heap.size, 1, none⟩) (by simp <;> omega)).trans (by go_simp), (hb.cell (p := ⟨w.heap.size + 1, 1, none⟩) (by simp <;> omega)).trans (by go_simp), bel_call (bel_alloc (bel_alloc (Below.refl _ w) _) _) hb⟩
  have STEP := Lib.hid step
  clear step
  by_cases h0 : c = 0
  · subst h0
    rw [if_neg (by simp)] at hE
    by_cases h1 : seq' < seq
    · rw [if_pos h1] at hE
      have HE := Lib.hid hE
      clear hE
      go_enter Try.func30, Try.ntmps30
      go_wp2_with fail
      refine HC.out.mono ?_
      rintro e w1 ⟨rfl, hb⟩
      obtain ⟨b1, b2, GG⟩ := STEP.out w1 hb
      clear hb
      go_wp2_with fail
      go_ret
      exact ⟨by rw [HE.out]; rfl, GG.out⟩
    · rw [if_neg h1] at hE
      by_cases h2 : seq < seq'
      · rw [if_pos h2] at hE
        have HE := Lib.hid hE
        clear hE
        go_enter Try.func30, Try.ntmps30
        go_wp2_with fail
        refine HC.out.mono ?_
        rintro e w1 ⟨rfl, hb⟩
        obtain ⟨b1, b2, GG⟩ := STEP.out w1 hb
        clear hb
        go_wp2_with fail
        go_ret
        exact ⟨by rw [HE.out]; rfl, GG.out⟩
      · rw [if_neg h2] at hE
        have HE := Lib.hid hE
        clear hE
        go_enter Try.func30, Try.ntmps30
        go_wp2_with fail
        refine HC.out.mono ?_
        rintro e w1 ⟨rfl, hb⟩
        obtain ⟨b1, b2, GG⟩ := STEP.out w1 hb
        clear hb
        go_wp2_with fail
        go_ret
        exact ⟨by rw [HE.out]; rfl, GG.out⟩
  · have q0 : (c != 0) = true := by simp [h0]
    rw [if_pos h0] at hE
    have HE := Lib.hid hE
    clear hE h0
    go_enter Try.func30, Try.ntmps30
    go_wp2_with fail
    refine HC.out.mono ?_
    rintro e w1 ⟨rfl, hb⟩
    obtain ⟨b1, b2, GG⟩ := STEP.out w1 hb
    clear hb
    go_wp2_with fail
    go_ret
    exact ⟨by rw [HE.out]; rfl, GG.out⟩
end Mt
end Go.Proofs.Ytmojbamloanleaa
