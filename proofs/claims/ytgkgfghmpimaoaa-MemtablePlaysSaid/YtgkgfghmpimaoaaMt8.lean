/- memtable: Level (walk). -/
import Derived.Test.YtgkgfghmpimaoaaMt7
set_option linter.unusedVariables false
set_option linter.unusedSimpArgs false
namespace Go.Proofs.Ytgkgfghmpimaoaa
open Go.RowKit
namespace Mt
/-- the entries of a level -/
def lvlE (L : List Nd) (i : Nat) : List En := (L.filter fun n => decide (i < n.h)).map (·.x)
def levelI (L : List Nd) (i : Int) : List En := if 0 ≤ i then lvlE L i.toNat else []
theorem nxt_split {M : List Nd} {i : Nat} : (nxt M i = none ∧ ∀ pre : List Nd, lvlE (pre ++ M) i = lvlE pre i) ∨ ∃ ms n bs, M = ms ++ n :: bs ∧ i < n.h ∧ nxt M i = some ⟨n.b, 0, none⟩ ∧ ∀ pre : List Nd, lvlE (pre ++ (ms ++ [n])) i = lvlE pre i ++ [n.x] := by
  unfold nxt lvlE
  cases h : M.find? (fun n => decide (i < n.h)) with
  | none =>
    refine .inl ⟨rfl, fun pre => ?_⟩
    rw [List.filter_append, List.filter_eq_nil_iff.2 (List.find?_eq_none.1 h), List.append_nil]
  | some n =>
    obtain ⟨h1, ms, bs, h2, h3⟩ := List.find?_eq_some_iff_append.1 h
    refine .inr ⟨ms, n, bs, h2, by simpa using h1, rfl, fun pre => ?_⟩
    have e : ms.filter (fun n => decide (i < n.h)) = [] := List.filter_eq_nil_iff.2 (fun a ha => by have := h3 a ha; simpa using this)
    simp only [List.filter_append, List.map_append, e, List.nil_append, List.filter_cons, h1, List.filter_nil, if_true, List.map_cons, List.map_nil]
theorem lvlE_len (L : List Nd) (i : Nat) : (lvlE L i).length ≤ L.length := by
  unfold lvlE
  rw [List.length_map]
  exact List.length_filter_le _ _
def LevelP (l : List En) (w : World) (e : Ending) (w' : World) : Prop := ∃ v, e = .returned v ∧ OwnEs w' w.heap.size v l ∧ Below w.heap.size w w'
def lenOf : Value → Nat | .slice _ n _ => n | _ => 0
theorem ownEs_nil {w : World} {base : Nat} : OwnEs w base (.slice none 0 0) [] := ⟨[], rfl, World.ownsRow_nil _ _ _ _, fun _ h => by cases h⟩
set_option maxRecDepth 100000 in
set_option maxHeartbeats 4000000 in
theorem level_any (S : Nat → Prop) (tb : Nat) (hs : List Int) (hd : Nd) (L : List Nd) (i : Int) (w : World) (hT : TabI S w tb hs hd L) :
    Calls Try.prog 16 #[.pointer (some ⟨tb, 0, none⟩), .int .i64 i] w (LevelP (levelI L i) w) := by
  obtain ⟨i0, hi0, hz0, hz1, hz2⟩ := info_parts infoEn
  have HI := Lib.hid hi0; have HZ0 := Lib.hid hz0; have HZ1 := Lib.hid hz1; have HZ2 := Lib.hid hz2
  clear hi0 hz0 hz1 hz2
  by_cases h0 : i < 0
  · have HE : Hid (levelI L i = []) := Lib.hid (if_neg (by omega))
    have q0 : decide (i < 0) = true := decide_eq_true h0
    clear hT h0
    go_enter Try.func16, Try.ntmps16
    go_wp2_with fail
    go_ret
    rw [HE.out]
    exact ⟨_, rfl, ownEs_nil, Below.refl _ _⟩
  · have q0 : decide (i < 0) = false := decide_eq_false h0
    by_cases h1 : 12 ≤ i
    · have HE : Hid (levelI L i = []) := Lib.hid (by
        unfold levelI lvlE
        rw [if_pos (by omega), List.filter_eq_nil_iff.2, List.map_nil]
        intro n hn
        have := (hT.nds n (List.mem_cons_of_mem _ hn)).hh.2
        simp only [decide_eq_true_eq]
        omega)
      have q1 : decide (12 ≤ i) = true := decide_eq_true h1
      clear hT h0 h1
      go_enter Try.func16, Try.ntmps16
      go_wp2_with fail
      go_ret
      rw [HE.out]
      exact ⟨_, rfl, ownEs_nil, Below.refl _ _⟩
    · have q1 : decide (12 ≤ i) = false := decide_eq_false h1
      obtain ⟨k, rfl⟩ : ∃ k : Nat, i = (k : Int) := ⟨i.toNat, by omega⟩
      have HE : Hid (levelI L (k : Int) = lvlE L k) := Lib.hid (by unfold levelI; rw [if_pos (by omega), Int.toNat_natCast])
      have hk : k < 12 := by omega
      obtain ⟨t1, -, -, tlt⟩ := hT.cells
      have hhd := hT.nds hd (List.mem_cons_self ..)
      obtain ⟨-, -, -, -, c4', cl⟩ := hhd.cells
      have hp := hT.ptrs 0 hd rfl k (by rw [hT.hh]; exact hk)
      rw [Nat.zero_add, List.drop_succ_cons, List.drop_zero] at hp
      rw [hT.hh] at c4'
      have rlt := World.block_lt_of_cell? w ⟨hd.r, k, none⟩ hp
      have q2 : (k : Int) < 12 := by omega
      have HT := Lib.hid hT
      clear hT h0 h1 hhd
      go_enter Try.func16, Try.ntmps16
      go_wp2_with fail
      go_loopw [5, 6] (fun v p wr => ∃ pre suf : List Nd, L = pre ++ suf ∧ p = .pointer (nxt suf k) ∧ lenOf v = (lvlE pre k).length ∧ Hid (OwnEs wr w.heap.size v (lvlE pre k)) ∧ Hid (Below w.heap.size w wr)) (fun v _ _ => L.length - lenOf v)
      case atStart => exact ⟨[], L, rfl, rfl, rfl, ownEs_nil, Below.refl _ _⟩
      case round =>
        obtain ⟨pre, suf, hL, rfl, hlv, hown, hbel⟩ := hrel
        rcases nxt_split (M := suf) (i := k) with ⟨s1, s2⟩ | ⟨ms, n, bs, s1, s2, s3, s4⟩
        · rw [s1]
          have HF : Hid (lvlE L k = lvlE pre k) := Lib.hid (by rw [hL]; exact s2 pre)
          clear s2 hL
          go_wp2_with fail
          go_ret
          rw [HE.out, HF.out]
          exact ⟨_, rfl, hown.out, hbel.out⟩
        · rw [s3]
          have hmem : n ∈ L := by rw [hL, s1]; simp
          have hLl := HT.out.len
          have hn := (HT.out.nds n (List.mem_cons_of_mem _ hmem))
          have hn1 := hn.keep (Chg.of_ext hbel.out)
          obtain ⟨n0, n1, n2, n3, -, nl⟩ := hn1.cells
          obtain ⟨no, nc, ek, -, -, -, -⟩ := hn1.k.form
          obtain ⟨mo, mc, ev, -, -, -, -⟩ := hn1.v.form
          have HO := Lib.hid (Mt.own_any n.kv n.vv n.x wr hn1.k.isB hn1.v.isB hn1.sh)
          have HU := Lib.hid hn.u
          rw [ek, ev] at HO
          rw [ek] at n0
          rw [ev] at n3
          obtain ⟨rs, hrs, hro, hrg⟩ := hown.out
          have hlr : rs.length = (lvlE pre k).length := by rw [← hrs, List.length_map]
          rw [← hlr] at hro
          obtain ⟨vo, vc, rfl, -, -, -, -⟩ := own_form hro
          have hrl : rs.length < 1000 := by
            have h5 := lvlE_len (pre ++ (ms ++ [n])) k
            rw [s4] at h5
            have h6 : (pre ++ (ms ++ [n])).length ≤ L.length := by rw [hL, s1]; simp
            simp only [List.length_append, List.length_singleton] at h5
            simp only [List.length_append, List.length_singleton] at h6
            omega
          have HLT : Hid (rs.length < L.length) := Lib.hid (by
            have h5 := lvlE_len (pre ++ (ms ++ [n])) k
            rw [s4] at h5
            have h6 : (pre ++ (ms ++ [n])).length ≤ L.length := by rw [hL, s1]; simp
            simp only [List.length_append, List.length_singleton] at h5
            simp only [List.length_append, List.length_singleton] at h6
            omega)
          have HRL := Lib.hid hrl
          have HRS := Lib.hid hrs
          have HRO := Lib.hid hro
          have HRG := Lib.hid hrg
          have HLR := Lib.hid hlr
          have HL2 : Hid (L = (pre ++ (ms ++ [n])) ++ bs) := Lib.hid (by rw [hL, s1]; simp)
          have S4 := Lib.hid (s4 pre)
          have hidx : (hd :: L)[(pre ++ ms).length + 1]? = some n := by rw [List.getElem?_cons_succ, hL, s1, ← List.append_assoc, List.getElem?_append_right (Nat.le_refl _), Nat.sub_self]; rfl
          have hdr : (hd :: L).drop ((pre ++ ms).length + 1 + 1) = bs := by rw [List.drop_succ_cons, hL, s1, ← List.append_assoc, List.drop_append]; simp
          have HPT : Hid (∀ w', Below w.heap.size w w' → w'.cell? ⟨n.b, 4, none⟩ = some (.slice (some ⟨n.r, 0, none⟩) n.h n.h) ∧ w'.cell? ⟨n.r, k, none⟩ = some (.pointer (nxt bs k)) ∧ n.b < w'.heap.size ∧ n.r < w'.heap.size) := Lib.hid fun w' hb => by
            have ht := HT.out.below hb
            obtain ⟨-, -, -, -, q4, ql⟩ := (ht.nds n (List.mem_cons_of_mem _ hmem)).cells
            have hq := ht.ptrs _ n hidx k s2
            rw [hdr] at hq
            exact ⟨q4, hq, ql, World.block_lt_of_cell? w' ⟨n.r, k, none⟩ hq⟩
          have qk : (k : Int) < n.h := by omega
          clear hrs hro hrg hL s1 s3 s4 hn hn1 hmem hidx hdr ek ev hlr hrl hlv hown hLl
          go_wp2_with fail
          refine HO.out.mono ?_
          unfold OwnP
          rintro e w2 ⟨v1, v2, rfl, h1, h2, hb⟩
          have H1 := Lib.hid h1
          have H2 := Lib.hid h2
          have G2 := Lib.hid hb
          obtain ⟨fo1, fc1, rfl, -, -, -, -⟩ := h1.form
          obtain ⟨to1, tc1, rfl, -, -, -, -⟩ := h2.form
          have hrl := HRL.out
          have z2 := hbel.out.size
          have z3 := G2.out.size
          clear h1 h2 hb n0 n1 n2 n3
          go_wp2_with (at_builtin; refine wpList_append_cells (w := w2) (base := w.heap.size) (size := 4) (n := rs.length) (xs := rs.flatMap c4) (.tmp 32) (.tmp 38) _ rfl rfl i0 _ 64 Try.underlying39 HI.out HZ0.out HZ1.out HZ2.out rfl (by decide) [.slice fo1 n.x.1.length fc1, .int .u64 n.x.2.1, .bool n.x.2.2.1, .slice to1 n.x.2.2.2.length tc1] rfl (by intro u hu; simp only [List.mem_cons, List.not_mem_nil, or_false] at hu; rcases hu with rfl | rfl | rfl | rfl <;> rfl) rfl rfl (own_below HRO.out G2.out) (by omega) (by omega) (by omega) ?_; intro v3 w3 ho3 hg3 hk3; have HO3 := Lib.hid ho3; have HG3 := Lib.hid hg3; have HBEL : Hid (Below w.heap.size w w3) := Lib.hid (bel_own (hbel.out.trans (G2.out.mono hbel.out.size)) HG3.out (own_below HRO.out G2.out)); obtain ⟨p4, pk, pb, pr⟩ := HPT.out w3 HBEL.out; obtain ⟨vo3, vc3, rfl, -, -, -, -⟩ := own_form ho3; clear ho3 hg3 hk3)
          have HNEW : Hid (OwnEs w3 w.heap.size (.slice vo3 (rs.length + 1) vc3) (lvlE (pre ++ (ms ++ [n])) k)) := Lib.hid (by
            rw [S4.out, ← HRS.out]
            exact OwnEs.push (r := (n.x, .slice fo1 n.x.1.length fc1, .slice to1 n.x.2.2.2.length tc1)) (w := w2) (own_below HRO.out G2.out) (fun r hr => (HRG.out r hr).below G2.out) ⟨H1.out.mono (by omega), H2.out.mono (by omega), HU.out⟩ HO3.out HG3.out)
          go_wp2_with fail
          go_roundw
          case rel => exact ⟨pre ++ (ms ++ [n]), bs, HL2.out, rfl, by rw [S4.out]; simp [lenOf, HLR.out], HNEW.out, HBEL.out⟩
          case measure => have := HLT.out; simp [lenOf]; omega
end Mt
end Go.Proofs.Ytgkgfghmpimaoaa
