/- bytes.ReplaceAll of each zero by a zero and a 255. The walk of bytes.Replace: each zero by a zero and a 255. -/
import Derived.Test.YtfkemeamimcnjaaDoorBytesFn
import Derived.Test.YtfkemeamimcnjaaDoorKit
import Derived.Test.YtfkemeamimcnjaaDoorCodecRX
set_option linter.unusedVariables false
set_option linter.unusedSimpArgs false
namespace Go.Proofs.YtfkemeamimcnjaaDoor
open Go.RowKit
set_option maxRecDepth 100000
theorem count_map : ∀ {l : List Int} {c : Int}, Rng l → (0 ≤ c ∧ c ≤ 255) → (l.map fun n => UInt8.ofNat n.toNat).count (UInt8.ofNat c.toNat) = l.count c
  | [], _, _, _ => rfl
  | x :: l, c, h, hc => by
    have ih := count_map (l := l) (c := c) (fun z hz => h z (List.mem_cons_of_mem _ hz)) hc
    have e := ofNat8_inj (h x (by simp)) hc
    rw [List.map_cons, List.count_cons, List.count_cons, ih]
    simp only [beq_iff_eq, e]
theorem IsB.run_count {P : Program} {w : World} {v : Value} {l : List Int} {c : Int} (h : IsB w v l) (hc : 0 ≤ c ∧ c ≤ 255) :
    (Extern.BytealgCount.count #[v, .int .u8 c]).run P w = .ok (.int .i64 (l.count c : Nat)) w := by
  have hs := Lib.run_countString (P := P) (strOfNums l) c w
  obtain ⟨K, hK⟩ : ∃ K : ByteArray → Sem Value, ∀ v, Extern.BytealgCount.count #[v, .int .u8 c] = (Extern.Bytes.bytesOf v >>= fun a => K a) := ⟨_, fun _ => rfl⟩
  have h1 : (Extern.Bytes.bytesOf (.string (strOfNums l))).run P w = .ok (strOfNums l) w := rfl
  rw [hK, Sem.run_bind, h1] at hs
  rw [hK, Sem.run_bind, h.run_bytesOf, hs, strOfNums_data]
  have := count_map h.rng hc
  rw [← this]
  rfl
/-- each zero becomes a zero and a 255 -/
def repl : List Int → List Int
  | [] => []
  | x :: l => if x = 0 then 0 :: 255 :: repl l else x :: repl l
theorem repl_append : ∀ (a b : List Int), repl (a ++ b) = repl a ++ repl b
  | [], b => rfl
  | x :: a, b => by
    have ih := repl_append a b
    simp only [List.cons_append, repl, ih]
    split <;> simp
theorem repl_len : ∀ l : List Int, (repl l).length = l.length + l.count 0
  | [] => rfl
  | x :: l => by
    have ih := repl_len l
    rw [repl, List.count_cons]
    by_cases h : x = 0
    · subst h; simp [ih]; omega
    · simp [h, ih]; omega
theorem repl_nz : ∀ {l : List Int}, (∀ x ∈ l, x ≠ 0) → repl l = l
  | [], _ => rfl
  | x :: l, h => by
    rw [repl, if_neg (h x (by simp)), repl_nz (fun y hy => h y (by simp [hy]))]
theorem repl_rng : ∀ {l : List Int}, Rng l → Rng (repl l)
  | [], _ => Rng.nil
  | x :: l, h => by
    have ih := repl_rng (l := l) (fun y hy => h y (by simp [hy]))
    rw [repl]
    split
    · exact Rng.cons (by decide) (Rng.cons (by decide) ih)
    · exact Rng.cons (h x (by simp)) ih
theorem count_nz {l : List Int} (h : ∀ x ∈ l, x ≠ 0) : l.count 0 = 0 := List.count_eq_zero.2 fun hm => h 0 hm rfl
set_option maxHeartbeats 400000 in
theorem count_any (v u : Value) (l : List Int) (w : World) (h : IsB w v l) (k : IsB w u [0]) :
    Calls Tryd.prog 104 #[v, u] w fun e w' => e = .returned (.int .i64 (l.count 0 : Nat)) ∧ w = w' := by
  have HR := Lib.hid (h.run_count (P := Tryd.prog) (c := 0) (by decide))
  obtain ⟨uo, ucap, rfl, hnc, -, -⟩ := k.form
  obtain ⟨b, o, x, rfl, hbb, hx, hc, -, -⟩ := k.at_ (k := 0) (by simp)
  have hx0 : x = 0 := by have := hx.out; simpa using this.symm
  subst hx0
  simp only [Nat.add_zero] at hc
  clear h k hx
  go_enter Tryd.func104, Tryd.ntmps104
  go_wp2_with fail
  rw [run_callFunc_extern Tryd.func108 (by kernel_rfl) (by kernel_rfl) (by kernel_rfl) (e := Extern.BytealgCount.count) (by kernel_rfl), HR.out]
  simp only [Result.andThen]
  rw [Oper.upon_value]
  go_wp2_with fail
  go_ret
  exact ⟨rfl, rfl⟩
set_option maxRecDepth 100000 in
set_option maxHeartbeats 1000000 in
theorem indexZero_any (v u : Value) (l : List Int) (w : World) (h : IsB w v l) (k : IsB w u [0]) :
    Calls Tryd.prog 105 #[v, u] w fun e w' => e = .returned (.int .i64 (idxI l 0)) ∧ w = w' := by
  have HC := Lib.hid (index_any v l 0 w h (by decide))
  obtain ⟨uo, ucap, rfl, hnc, -, -⟩ := k.form
  obtain ⟨b, o, x, rfl, hbb, hx, hc, -, -⟩ := k.at_ (k := 0) (by simp)
  have hx0 : x = 0 := by have := hx.out; simpa using this.symm
  subst hx0
  simp only [Nat.add_zero] at hc
  clear h k hx
  go_enter Tryd.func105, Tryd.ntmps105
  go_wp2_with fail
  refine HC.out.mono ?_
  rintro e w1 ⟨rfl, rfl⟩
  go_wp2_with fail
  go_ret
  exact ⟨rfl, rfl⟩
end Go.Proofs.YtfkemeamimcnjaaDoor
namespace Go.Proofs.YtfkemeamimcnjaaDoor
open Go.RowKit
set_option maxRecDepth 100000
def RepPost (l : List Int) (w : World) (e : Ending) (w' : World) : Prop :=
  ∃ v, e = .returned v ∧ w'.ownsRow w.heap.size 5 1 v (repl l).length ((repl l).map (Value.int .u8)) ∧ Below w.heap.size w w'
theorem rep_step {T l seg : List Int} {s k n : Nat} (hT : T.take (s + k) = repl (l.take s)) (hTl : s + k + n + 2 ≤ T.length) (hseg : (l.drop s).take n = seg) (hn : seg.length = n) (hz : ∀ x ∈ seg, x ≠ 0) (h0 : (l.drop s)[n]? = some 0) :
    ((T.take (s + k) ++ seg ++ T.drop (s + k + n)).take (s + k + n) ++ [0, 255] ++ (T.take (s + k) ++ seg ++ T.drop (s + k + n)).drop (s + k + n + 2)).take (s + n + 1 + (k + 1)) = repl (l.take (s + n + 1)) := by
  have hlen : (T.take (s + k) ++ seg).length = s + k + n := by rw [List.length_append, List.length_take, hn]; omega
  rw [List.take_left' hlen]
  have e1 : l.take (s + n + 1) = l.take s ++ (seg ++ [0]) := by
    have e2 : (l.drop s).take (n + 1) = seg ++ [0] := by rw [← hseg]; exact take_snoc h0
    rw [← e2, Nat.add_assoc, List.take_add]
  rw [e1, repl_append, repl_append, repl_nz hz, hT]
  rw [List.take_left' (by rw [List.length_append, ← hT, hlen]; simp only [List.length_cons, List.length_nil]; omega)]
  rw [List.append_assoc]
  rfl
theorem count_take_drop (l : List Int) (s : Nat) : (l.take s).count 0 + (l.drop s).count 0 = l.count 0 := by
  rw [← List.count_append, List.take_append_drop]
set_option maxRecDepth 100000 in
set_option maxHeartbeats 4000000 in
theorem replace_any (v ov nv : Value) (l : List Int) (w : World) (h : IsB w v l) (ho : IsB w ov [0]) (hn : IsB w nv [0, 255]) (hl : l.length ≤ 1099511627776) :
    Calls Tryd.prog 101 #[v, ov, nv, .int .i64 (-1)] w (RepPost l w) := by
  have HC := Lib.hid (count_any v ov l w h ho)
  obtain ⟨ao, cap, rfl, hnc, hcap, hform⟩ := h.form
  have HB := Lib.hid h
  obtain ⟨oo, ocap, rfl, -, -, -⟩ := ho.form
  obtain ⟨no, ncap, rfl, -, -, -⟩ := hn.form
  have HO : Hid (IsB w (.slice oo 1 ocap) [0]) := Lib.hid ho
  have HN : Hid (IsB w (.slice no 2 ncap) [0, 255]) := Lib.hid hn
  have hcl : l.count 0 ≤ l.length := List.count_le_length
  obtain ⟨m, hm⟩ : ∃ m, l.count 0 = m := ⟨_, rfl⟩
  rw [hm] at HC hcl
  have HM := Lib.hid hm
  obtain ⟨i0, hi0, hz0, hz1, hz2⟩ := info_parts infoU8
  have HI := Lib.hid hi0; have HZ0 := Lib.hid hz0; have HZ1 := Lib.hid hz1; have HZ2 := Lib.hid hz2
  have hsz : (Tryd.prog.info? 5).map (·.size) = some 1 := by kernel_rfl
  have HSZ := Lib.hid hsz
  clear hi0 hz0 hz1 hz2 h ho hn hm hsz
  by_cases hm0 : m = 0
  · subst hm0
    have hrep : repl l = l := repl_nz (fun x hx e => List.count_eq_zero.1 HM.out (e ▸ hx))
    have HR := Lib.hid hrep
    clear hform hrep
    go_enter Tryd.func101, Tryd.ntmps101
    go_wp2_with fail
    refine HC.out.mono ?_
    rintro e w1 ⟨rfl, rfl⟩
    go_wp2_with (at_builtin; refine wpList_append_bytes (base := w.heap.size) (.const (.slice none 0 0)) (.tmp 24) _ rfl rfl i0 _ Tryd.underlying29 HI.out HZ0.out HZ1.out HZ2.out rfl _ [] l rfl rfl (World.ownsRow_nil _ _ _ _) HB.out (by omega) (Nat.le_refl _) ?_; intro v2 w2 hown2 hb2; simp only [Nat.zero_add, List.nil_append] at hown2; have HO2 := Lib.hid hown2; have HB2 := Lib.hid hb2; clear hown2 hb2)
    go_ret
    exact ⟨_, rfl, by rw [HR.out]; exact HO2.out, HB2.out⟩
  · obtain ⟨b, o, rfl, hb⟩ := hform.resolve_left (fun h => by rw [h] at hcl; simp at hcl; omega)
    clear hform
    obtain ⟨N, hN⟩ : ∃ N, l.length + m = N := ⟨_, rfl⟩
    have q1 : ((m : Int) == 0) = false := beq_eq_false_iff_ne.2 (by omega)
    have hNI : (l.length : Int) + m = N := by omega
    go_enter Tryd.func101, Tryd.ntmps101
    go_wp2_with fail
    refine HC.out.mono ?_
    rintro e w1 ⟨rfl, rfl⟩
    go_wp2_with (at_make; refine wpList_make_bytes rfl (.tmp 43) (.tmp 43) _ rfl i0 Tryd.underlying29 HI.out HZ0.out HZ1.out HZ2.out _ _ N rfl rfl (by push_cast; omega) (by push_cast; omega) (by omega) (Nat.le_refl _) ?_; intro w1 hown g1 z1; have HO1 := Lib.hid hown; have G1 := Lib.hid g1; clear hown g1)
    go_loopw [11, 12, 49] (fun wd st i wr => ∃ (k s : Nat) (T : List Int), k ≤ m ∧ s ≤ l.length ∧ i = .int .i64 k ∧ st = .int .i64 s ∧ wd = .int .i64 ((s : Int) + k) ∧ Hid ((l.take s).count 0 = k) ∧ Hid (T.take (s + k) = repl (l.take s)) ∧ Hid (wr.ownsRow w.heap.size 5 1 (.slice (some ⟨w.heap.size, 0, none⟩) N N) N (T.map (Value.int .u8))) ∧ Hid (Below w.heap.size w wr)) (fun _ _ i _ => m - (intOf i).toNat)
    case atStart => exact ⟨0, 0, List.replicate N 0, by omega, by omega, rfl, rfl, rfl, rfl, rfl, HO1.out, G1.out⟩
    case round =>
      obtain ⟨k, s, T, hk, hs, rfl, rfl, rfl, hcnt, hT, hown, hbel⟩ := hrel
      have hTl : T.length = N := by have := own_len hown.out; simpa using this
      have hrs : (repl (l.take s)).length = s + k := by rw [repl_len, hcnt.out, List.length_take]; omega
      have hct := count_take_drop l s
      rw [hcnt.out, HM.out] at hct
      have HCT := Lib.hid hct
      have hTl2 := Lib.hid hTl
      clear hTl hct
      by_cases hlt : k < m
      · have hne : idxI (l.drop s) 0 ≠ -1 := fun he => by
          have h1 := count_nz (Codec.idxI_none he)
          have h2 := HCT.out
          omega
        have hir := idxI_rng (l.drop s) 0
        rw [List.length_drop] at hir
        obtain ⟨n, hn⟩ := Int.eq_ofNat_of_zero_le (show 0 ≤ idxI (l.drop s) 0 by omega)
        obtain ⟨hz, hnz⟩ := Codec.idxI_some hn
        rw [hn] at hir
        obtain ⟨seg, hseg⟩ : ∃ seg, (l.drop s).take n = seg := ⟨_, rfl⟩
        rw [hseg] at hnz
        have hsl : seg.length = n := by rw [← hseg, List.length_take, List.length_drop]; omega
        have hsn : s + n < l.length := by omega
        subst hsl
        have hB1 := HB.out.below hbel.out
        have hD : IsB wr (.slice (some ⟨b, o + s, none⟩) (l.length - s) (cap - s)) (l.drop s) := by
          have := hB1.cut s (l.length - s) (by omega)
          rwa [Option.map_some, plain_add', List.take_of_length_le (by rw [List.length_drop]; omega)] at this
        have hS : IsB wr (.slice (some ⟨b, o + s, none⟩) seg.length (cap - s)) seg := by
          have := hB1.cut s seg.length (by omega)
          rwa [Option.map_some, plain_add', hseg] at this
        have hX := indexZero_any _ _ (l.drop s) wr hD (HO.out.below hbel.out)
        rw [hn] at hX
        have HX := Lib.hid hX
        have HS := Lib.hid hS
        have HNW := Lib.hid (HN.out.below hbel.out)
        have HSEG := Lib.hid hseg
        have HNZ := Lib.hid hnz
        have HZ := Lib.hid hz
        have hkn : s + k + seg.length + 2 ≤ N := by omega
        have n1 : (s : Int) + k ≤ N := by omega
        have n2 : 0 ≤ (s : Int) + k := by omega
        have n3 : ((s : Int) + k).toNat = s + k := by omega
        have n4 : (s : Int) ≤ (s : Int) + seg.length := by omega
        have n5 : 0 ≤ (s : Int) + seg.length := by omega
        have n6 : ((s : Int) + seg.length).toNat = s + seg.length := by omega
        have n7 : (s : Int) + seg.length ≤ cap := by omega
        have n8 : s + seg.length - s = seg.length := by omega
        have n9 : ¬ N = s + k := by omega
        have n10 : ¬ cap = s := by omega
        have w1' := IntWalk.i64_in ((s : Int) + seg.length) (by omega)
        have w2' := IntWalk.i64_in ((s : Int) + k + seg.length) (by omega)
        clear hD hS hX hB1 hseg hnz hz hn hne
        go_wp2_with fail
        refine HX.out.mono ?_
        rintro e w2 ⟨rfl, rfl⟩
        go_wp2_with fail
        go_region_held3 (fun _ => True) (trivial) ((refine step_of_list rfl ?_; refine wpList_copy_at (w := wr.drew) (base := w.heap.size) (g := w.heap.size) (n := N) (cap := N) (k := s + k) (ds := T) (ms := seg) rfl (.tmp 61) (.tmp 65) _ _ rfl Tryd.underlying29 HSZ.out rfl rfl (show wr.ownsRow _ _ _ _ _ _ from hown.out) (show IsB wr _ _ from HS.out) (by omega) ?_; intro w3 hown3 hg3; refine list_done ?_; have HO3 := Lib.hid hown3; have G3 := Lib.hid (bel_own hbel.out.drew hg3 (show wr.ownsRow _ _ _ _ _ _ from hown.out)); clear hown3 hg3))
        have hT1 := own_len HO3.out
        have HT1 := Lib.hid hT1
        have n11 : (s : Int) + k + seg.length ≤ N := by omega
        have n12 : 0 ≤ (s : Int) + k + seg.length := by omega
        have n13 : ((s : Int) + k + seg.length).toNat = s + k + seg.length := by omega
        have n14 : ¬ N = s + k + seg.length := by omega
        have w3' := IntWalk.i64_in ((s : Int) + k + seg.length + 2) (by omega)
        have w4' := IntWalk.i64_in ((s : Int) + seg.length + 1) (by omega)
        have HN3 := Lib.hid (HN.out.below G3.out)
        clear hT1
        go_wp2_with (refine wpList_copy_at (w := w3) (base := w.heap.size) (g := w.heap.size) (n := N) (cap := N) (k := s + k + seg.length) (ms := [0, 255]) rfl (.tmp 71) (.tmp 72) _ _ rfl Tryd.underlying29 HSZ.out rfl rfl HO3.out HN3.out (by simp only [List.length_cons, List.length_nil]; omega) ?_; intro w4 hown4 hg4; have HO4 := Lib.hid hown4; have G4 := Lib.hid (bel_own G3.out hg4 HO3.out); clear hown4 hg4)
        go_roundw
        case rel =>
          have hTl3 := hTl2.out
          have hcnt' : (l.take (s + seg.length + 1)).count 0 = k + 1 := by
            have e2 : (l.drop s).take (seg.length + 1) = seg ++ [0] := by rw [take_snoc HZ.out, HSEG.out]
            rw [Nat.add_assoc, List.take_add, e2, List.count_append, List.count_append, hcnt.out, count_nz HNZ.out]
            rfl
          exact ⟨k + 1, s + seg.length + 1, _, by omega, by omega, by go_num, by go_num, by go_num, hcnt', rep_step hT.out (by omega) HSEG.out rfl HNZ.out HZ.out, HO4.out, G4.out⟩
        case measure => simp [intOf]; omega
      · have hkm : k = m := by omega
        subst hkm
        have hz0 : (l.drop s).count 0 = 0 := by have := HCT.out; omega
        have hrl : (repl l).length = N := by rw [repl_len, HM.out]; exact hN
        have hrd : repl (l.drop s) = l.drop s := repl_nz (fun x hx e => List.count_eq_zero.1 hz0 (e ▸ hx))
        have hre : repl l = repl (l.take s) ++ l.drop s := by
          have := repl_append (l.take s) (l.drop s)
          rw [List.take_append_drop, hrd] at this
          exact this
        have HRE := Lib.hid hre
        have HRL := Lib.hid hrl
        have n1 : (s : Int) + k ≤ N := by omega
        have n2 : 0 ≤ (s : Int) + k := by omega
        have n3 : ((s : Int) + k).toNat = s + k := by omega
        clear hz0 hrd hre hrl
        by_cases hsl : s < l.length
        · obtain ⟨d, hd⟩ : ∃ d, l.length - s = d := ⟨_, rfl⟩
          have hD : IsB wr (.slice (some ⟨b, o + s, none⟩) (l.length - s) (cap - s)) (l.drop s) := by
            have := (HB.out.below hbel.out).cut s (l.length - s) (by omega)
            rwa [Option.map_some, plain_add', List.take_of_length_le (by rw [List.length_drop]; omega)] at this
          have hDl : (l.drop s).length = l.length - s := List.length_drop
          obtain ⟨R, hR⟩ : ∃ R, l.drop s = R := ⟨_, rfl⟩
          rw [hR] at hD hDl HRE
          have HD := Lib.hid hD
          have HDL := Lib.hid hDl
          have n9 : ¬ N = s + k := by omega
          have n10 : ¬ cap = s := by omega
          have w2' := IntWalk.i64_in ((s : Int) + k + R.length) (by omega)
          have n4 : (s : Int) + k + R.length = N := by omega
          clear hD hDl hR hd
          go_wp2_with fail
          go_region_held3 (fun _ => True) (trivial) ((refine step_of_list rfl ?_; refine wpList_copy_at (w := wr.drew) (base := w.heap.size) (g := w.heap.size) (n := N) (cap := N) (k := s + k) (ds := T) (ms := R) rfl (.tmp 123) (.tmp 126) _ _ rfl Tryd.underlying29 HSZ.out rfl rfl (show wr.ownsRow _ _ _ _ _ _ from hown.out) (show IsB wr _ _ from HD.out) (by have := HDL.out; omega) ?_; intro w3 hown3 hg3; refine list_done ?_; have HO3 := Lib.hid hown3; have G3 := Lib.hid (bel_own hbel.out.drew hg3 (show wr.ownsRow _ _ _ _ _ _ from hown.out)); clear hown3 hg3))
          go_wp2_with fail
          go_ret
          have h3 := HO3.out
          have e3 : T.take (s + k) ++ R ++ T.drop (s + k + R.length) = repl l := by
            have := hTl2.out
            have := HDL.out
            rw [List.drop_eq_nil_of_le (by omega), List.append_nil, HRE.out, hT.out]
          rw [e3] at h3
          exact ⟨_, rfl, by rw [HRL.out]; exact h3, G3.out⟩
        · have hsl' : s = l.length := by omega
          subst hsl'
          have hT' : T = repl l := by
            have h1 := hT.out
            rw [List.take_length, List.take_of_length_le (by have := hTl2.out; omega)] at h1
            exact h1
          have HT' := Lib.hid hT'
          have n4 : (l.length : Int) + k = N := hNI
          clear hT' hsl
          by_cases hcl2 : cap = l.length
          · subst hcl2
            go_wp2_with fail
            go_region_held3 (fun _ => True) (trivial) ((refine step_of_list rfl ?_; refine wpList_copy_nothing rfl (.tmp 123) (.tmp 126) _ _ rfl 5 Tryd.underlying29 HSZ.out _ _ _ _ _ _ rfl rfl (by simp) ?_; refine list_done ?_))
            go_wp2_with fail
            go_ret
            have h3 := hown.out
            rw [HT'.out] at h3
            exact ⟨_, rfl, by rw [HRL.out]; exact h3, hbel.out.drew⟩
          · go_wp2_with fail
            go_region_held3 (fun _ => True) (trivial) ((refine step_of_list rfl ?_; refine wpList_copy_nothing rfl (.tmp 123) (.tmp 126) _ _ rfl 5 Tryd.underlying29 HSZ.out _ _ _ _ _ _ rfl rfl (by simp) ?_; refine list_done ?_))
            go_wp2_with fail
            go_ret
            have h3 := hown.out
            rw [HT'.out] at h3
            exact ⟨_, rfl, by rw [HRL.out]; exact h3, hbel.out.drew⟩
end Go.Proofs.YtfkemeamimcnjaaDoor
