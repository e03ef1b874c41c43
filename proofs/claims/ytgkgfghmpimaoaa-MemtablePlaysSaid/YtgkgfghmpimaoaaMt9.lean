/- memtable: Put (walk). -/
import Derived.Test.YtgkgfghmpimaoaaMt9b
import Derived.Test.YtgkgfghmpimaoaaMtP
import Derived.Deep.DeepCutAuto
set_option linter.unusedVariables false
set_option linter.unusedSimpArgs false
namespace Go.Proofs.Ytgkgfghmpimaoaa
open Go.RowKit
namespace Mt
/-- the height of a node that is put when there are n -/
def hgtI (hs : List Int) (n : Nat) : Int := if hs = [] then 1 else min (max (hs.getD (n % hs.length) 0) 1) 12
/-- whether an entry of this key and Seq is there -/
def twiceB (l : List En) (pos : Nat) (x : En) : Bool := match l[pos]? with
  | some y => (y.2.1 == x.2.1) && decide (y.1 = x.1)
  | none => false
def putC (l : List En) (pos : Nat) (x : En) : Int := if mayB x = false then 50 else if twiceB l pos x = true then 51 else 0
theorem infoPt : (Try.prog.info? 54).map (fun i => (i.zero, i.size, i.bytes)) = some (some (.pointer none), 1, 8) := by kernel_rfl
theorem may_short {x : En} (h : mayB x = true) : Short x := by
  unfold mayB at h
  simp only [Bool.and_eq_true, decide_eq_true_eq] at h
  exact ⟨by omega, by omega⟩
/-- a node that was made, beside no other -/
structure NewN (w wx : World) (x : En) (h : Nat) (n : Nd) : Prop where
  bel : Below w.heap.size w wx
  nd : NdI (fun b => w.heap.size ≤ b ∧ b < wx.heap.size) wx n
  hx : n.x = x
  hh : n.h = h
  nil : ∀ j, j < h → wx.cell? ⟨n.r, j, none⟩ = some (.pointer none)
theorem newN_of {w wz : World} {ko1 vo1 : Option Addr} {kc1 vc1 r h : Nat} {key val : List Int} {seq : Int} {del : Bool} (k : OwnS wz w.heap.size 5 (.slice ko1 key.length kc1) key) (v : OwnS wz w.heap.size 5 (.slice vo1 val.length vc1) val)
    (hr : wz.ownsRow w.heap.size 54 1 (.slice (some ⟨r, 0, none⟩) h h) h (madeCells (Value.pointer none).cells (h * 1)).toList) (hb : Below w.heap.size w wz) (hu : U64 seq) (hh : 1 ≤ h ∧ h ≤ 12) (hs : Short (key, seq, del, val)) :
    NewN w (wz.alloc (.cells #[.slice ko1 key.length kc1, .int .u64 seq, .bool del, .slice vo1 val.length vc1, .slice (some ⟨r, 0, none⟩) h h] 57)) (key, seq, del, val) h ⟨wz.heap.size, r, .slice ko1 key.length kc1, .slice vo1 val.length vc1, (key, seq, del, val), h⟩ := by
  obtain ⟨cur, hg, hc, -, -, hs1, ht⟩ := own_row hr
  have hlt := (Array.getElem?_eq_some_iff.1 hc).1
  have hb1 := (Below.refl wz.heap.size wz).alloc (Nat.le_refl _) (.cells #[.slice ko1 key.length kc1, .int .u64 seq, .bool del, .slice vo1 val.length vc1, .slice (some ⟨r, 0, none⟩) h h] 57)
  refine ⟨bel_alloc hb _, ⟨heap_alloc_new wz _, ⟨cur, (hb1.block r hlt).trans hc, by simpa using hs1⟩, (k.below hb1).mono (Nat.zero_le _), (v.below hb1).mono (Nat.zero_le _), ⟨hb.size, by simp⟩, ⟨hg, by simp; omega⟩, fun b h => ⟨(k.lt b h).1, by have := (k.lt b h).2; simp; omega⟩, fun b h => ⟨(v.lt b h).1, by have := (v.lt b h).2; simp; omega⟩, hu, hh, hs⟩, rfl, rfl, fun j hj => ?_⟩
  refine (hb1.cell (p := ⟨r, j, none⟩) hlt).trans ?_
  refine own_cell' hr ?_
  rw [show (madeCells (Value.pointer none).cells (h * 1)).toList = List.replicate h (.pointer none) from ?_]
  · rw [List.getElem?_replicate, if_pos hj]
  · refine List.eq_replicate_iff.2 ⟨by simp [size_madeCells], fun u hu => ?_⟩
    unfold madeCells at hu
    rw [Array.toList_map, List.mem_map] at hu
    obtain ⟨k, -, rfl⟩ := hu
    simp [Value.cells, Nat.mod_one]
def putN (P : List (En × Nat)) (pos : Nat) (x : En) (h : Nat) (c : Int) : List (En × Nat) := if c = 0 then P.take pos ++ (x, h) :: P.drop pos else P
def ndP (L : List Nd) : List (En × Nat) := L.map fun n => (n.x, n.h)
def PutP (S : Nat → Prop) (tb : Nat) (hs : List Int) (hd : Nd) (L : List Nd) (pos : Nat) (x : En) (w : World) (e : Ending) (w' : World) : Prop :=
  e = .returned (.int .i64 (putC (L.map (·.x)) pos x)) ∧ Chg S w w' ∧ ∃ L', TabI (fun k => S k ∨ w.heap.size ≤ k ∧ k < w'.heap.size) w' tb hs hd L' ∧ ndP L' = putN (ndP L) pos x (hgtI hs L.length).toNat (putC (L.map (·.x)) pos x)
theorem TabI.mono {S S' : Nat → Prop} {w : World} {tb : Nat} {hs : List Int} {hd : Nd} {L : List Nd} (h : TabI S w tb hs hd L) (hS : ∀ b, S b → S' b) (hlt : ∀ b, S' b → b < w.heap.size) : TabI S' w tb hs hd L := by
  obtain ⟨hv, h1, h2, h3⟩ := h.obj
  exact ⟨⟨hv, h1, h2, fun b hb => hS b (h3 b hb)⟩, h.hI, fun n hn => by
    have q := h.nds n hn
    exact ⟨q.obj, q.row, q.k, q.v, hS _ q.sb, hS _ q.sr, fun b hb => hS b (q.sk b hb), fun b hb => hS b (q.sv b hb), q.u, q.hh, q.sh⟩, h.ptrs, h.rne, h.hh, h.hx, h.asc, h.may, h.len, hS _ h.stb, hlt⟩
theorem putP_same {S : Nat → Prop} {tb : Nat} {hs : List Int} {hd : Nd} {L : List Nd} {pos : Nat} {x : En} {c : Int} {w w' : World} (hT : TabI S w tb hs hd L) (hb : Below w.heap.size w w') (hc : putC (L.map (·.x)) pos x = c) (h0 : c ≠ 0) : PutP S tb hs hd L pos x w (.returned (.int .i64 c)) w' :=
  ⟨by rw [hc], .of_ext hb, L, (hT.below hb).mono (fun b h => .inl h) (fun b h => by
    rcases h with h | h
    · exact Nat.lt_of_lt_of_le (hT.lt b h) hb.size
    · exact h.2), by unfold putN; rw [if_neg (by rw [hc]; exact h0)]⟩
theorem ndP_ins (L : List Nd) (pos : Nat) (n : Nd) : ndP (insN L pos n) = (ndP L).take pos ++ (n.x, n.h) :: (ndP L).drop pos := by
  unfold ndP insN
  simp [List.map_take, List.map_drop]
theorem bytes_bound : ∀ (L : List Nd), (∀ n ∈ L, mayB n.x = true) → bytesE (L.map (·.x)) ≤ 65808 * L.length
  | [], _ => by simp [bytesE]
  | n :: L, h => by
    have ih := bytes_bound L (fun m hm => h m (List.mem_cons_of_mem _ hm))
    have hn := h n (List.mem_cons_self ..)
    unfold mayB at hn
    simp only [Bool.and_eq_true, decide_eq_true_eq] at hn
    unfold bytesE at ih ⊢
    simp only [List.map_cons, List.sum_cons, List.length_cons, sizeE]
    omega
set_option maxRecDepth 100000 in
set_option maxHeartbeats 8000000 in
theorem put_any (S : Nat → Prop) (tb : Nat) (hs : List Int) (hd : Nd) (L : List Nd) (kv vv : Value) (x : En) (pos : Nat) (w : World) (hT : TabI S w tb hs hd L) (hk : IsB w kv x.1) (hv : IsB w vv x.2.2.2) (hu : U64 x.2.1) (hp : Pos (L.map (·.x)) x.1 x.2.1 pos) (hn : L.length < 1000) :
    Calls Try.prog 21 #[.pointer (some ⟨tb, 0, none⟩), .agg #[kv, .int .u64 x.2.1, .bool x.2.2.1, vv]] w (PutP S tb hs hd L pos x w) := by
  obtain ⟨ko, kc, rfl, -, -, -⟩ := hk.form
  obtain ⟨vo, vc, rfl, -, -, -⟩ := hv.form
  have m1 := hk.max
  have m2 := hv.max
  obtain ⟨key, seq, del, val⟩ := x
  simp only at hk hv hp hu m1 m2 ⊢
  have hE : mayB (key, seq, del, val) = (decide (1 ≤ key.length) && (decide (key.length ≤ 256) && (decide (1 ≤ seq) && (decide (seq ≤ 4611686018427387904) && (decide (val.length ≤ 65536) && (!del || decide (val.length = 0))))))) := rfl
  have HT := Lib.hid hT
  have HK := Lib.hid hk
  have HV := Lib.hid hv
  have HP := Lib.hid hp
  have HU := Lib.hid hu
  have HN := Lib.hid hn
  have hb0 := bel_alloc (Below.refl _ w) (.cells #[.slice ko key.length kc, .int .u64 seq, .bool del, .slice vo val.length vc] 32)
  have HC := Lib.hid (place_any S tb hs hd L _ key seq pos _ (hT.below hb0) (hk.below hb0) hp)
  have HPL : Hid (pos ≤ L.length) := Lib.hid (by have := hp.1; rwa [List.length_map] at this)
  clear hT hk hv hp hu hn hb0
  go_enter Try.func21, Try.ntmps21
  go_upto_region 1 with fail
  go_cut [46] (fun s46 wx => s46 = .bool (!mayB (key, seq, del, val)) ∧ w.alloc (.cells #[.slice ko key.length kc, .int .u64 seq, .bool del, .slice vo val.length vc] 32) = wx)
  case first =>
    by_cases h0 : 1 ≤ key.length
    · rw [decide_eq_true h0, Bool.true_and] at hE
      have q0 : ¬ (key.length : Int) < 1 := by omega
      clear h0
      by_cases h1 : key.length ≤ 256
      · rw [decide_eq_true h1, Bool.true_and] at hE
        have q1 : ¬ 256 < (key.length : Int) := by omega
        clear h1
        by_cases h2 : 1 ≤ seq
        · rw [decide_eq_true h2, Bool.true_and] at hE
          have q2 : ¬ seq < 1 := by omega
          clear h2
          by_cases h3 : seq ≤ 4611686018427387904
          · rw [decide_eq_true h3, Bool.true_and] at hE
            have q3 : ¬ 4611686018427387904 < seq := by omega
            clear h3
            by_cases h4 : val.length ≤ 65536
            · rw [decide_eq_true h4, Bool.true_and] at hE
              have q4 : ¬ 65536 < (val.length : Int) := by omega
              clear h4
              cases del
              · rw [Bool.not_false, Bool.true_or] at hE
                have HE := Lib.hid hE
                clear hE
                go_wp2_with fail
                all_goals
                  go_meet
                  exact ⟨by rw [HE.out]; first | rfl | exact congrArg Value.bool (decide_eq_true (by omega)) | exact congrArg Value.bool (decide_eq_false (by omega)), rfl⟩
              · rw [Bool.not_true, Bool.false_or] at hE
                by_cases h9 : val.length = 0
                · rw [decide_eq_true h9] at hE
                  have q9 : ¬ (0 : Int) < (val.length : Int) := by omega
                  clear h9
                  have HE := Lib.hid hE
                  clear hE
                  go_wp2_with fail
                  all_goals
                    go_meet
                    exact ⟨by rw [HE.out]; first | rfl | exact congrArg Value.bool (decide_eq_true (by omega)) | exact congrArg Value.bool (decide_eq_false (by omega)), rfl⟩
                · rw [decide_eq_false h9] at hE
                  have q9 : (0 : Int) < (val.length : Int) := by omega
                  clear h9
                  have HE := Lib.hid hE
                  clear hE
                  go_wp2_with fail
                  all_goals
                    go_meet
                    exact ⟨by rw [HE.out]; first | rfl | exact congrArg Value.bool (decide_eq_true (by omega)) | exact congrArg Value.bool (decide_eq_false (by omega)), rfl⟩
            · rw [decide_eq_false h4, Bool.false_and] at hE
              have q4 : 65536 < (val.length : Int) := by omega
              clear h4
              have HE := Lib.hid hE
              clear hE
              go_wp2_with fail
              all_goals
                go_meet
                exact ⟨by rw [HE.out]; first | rfl | exact congrArg Value.bool (decide_eq_true (by omega)) | exact congrArg Value.bool (decide_eq_false (by omega)), rfl⟩
          · rw [decide_eq_false h3, Bool.false_and] at hE
            have q3 : 4611686018427387904 < seq := by omega
            clear h3
            have HE := Lib.hid hE
            clear hE
            go_wp2_with fail
            all_goals
              go_meet
              exact ⟨by rw [HE.out]; first | rfl | exact congrArg Value.bool (decide_eq_true (by omega)) | exact congrArg Value.bool (decide_eq_false (by omega)), rfl⟩
        · rw [decide_eq_false h2, Bool.false_and] at hE
          have q2 : seq < 1 := by omega
          clear h2
          have HE := Lib.hid hE
          clear hE
          go_wp2_with fail
          all_goals
            go_meet
            exact ⟨by rw [HE.out]; first | rfl | exact congrArg Value.bool (decide_eq_true (by omega)) | exact congrArg Value.bool (decide_eq_false (by omega)), rfl⟩
      · rw [decide_eq_false h1, Bool.false_and] at hE
        have q1 : 256 < (key.length : Int) := by omega
        clear h1
        have HE := Lib.hid hE
        clear hE
        go_wp2_with fail
        all_goals
          go_meet
          exact ⟨by rw [HE.out]; first | rfl | exact congrArg Value.bool (decide_eq_true (by omega)) | exact congrArg Value.bool (decide_eq_false (by omega)), rfl⟩
    · rw [decide_eq_false h0, Bool.false_and] at hE
      have q0 : (key.length : Int) < 1 := by omega
      clear h0
      have HE := Lib.hid hE
      clear hE
      go_wp2_with fail
      all_goals
        go_meet
        exact ⟨by rw [HE.out]; first | rfl | exact congrArg Value.bool (decide_eq_true (by omega)) | exact congrArg Value.bool (decide_eq_false (by omega)), rfl⟩
  case rest =>
    obtain ⟨rfl, rfl⟩ := hcut
    clear hE
    cases hmay : mayB (key, seq, del, val)
    · have HPC : Hid (putC (L.map (·.x)) pos (key, seq, del, val) = 50) := Lib.hid (by unfold putC; rw [if_pos hmay])
      clear hmay
      go_wp2_with fail
      go_ret
      exact putP_same HT.out (bel_alloc (Below.refl _ w) _) HPC.out (by decide)
    · have HMAY := Lib.hid hmay
      go_wp2_with fail
      refine HC.out.mono ?_
      unfold PlaceP
      rintro e w1 ⟨rfl, hb⟩
      have HB1 : Hid (Below w.heap.size w w1) := Lib.hid (bel_call (bel_alloc (Below.refl _ w) _) hb)
      have b0 : w1.cell? ⟨w.heap.size, 0, none⟩ = some (.slice ko key.length kc) := (hb.cell (p := ⟨w.heap.size, 0, none⟩) (by simp <;> omega)).trans (by first | (go_simp; done) | (rw [World.cell?_setCell_other _ _ _ _ (by simp)]; assumption) | exact World.cell?_setCell_same' _ _ _ (by simp [*]))
      have b1 : w1.cell? ⟨w.heap.size, 1, none⟩ = some (.int .u64 seq) := (hb.cell (p := ⟨w.heap.size, 1, none⟩) (by simp <;> omega)).trans (by first | (go_simp; done) | (rw [World.cell?_setCell_other _ _ _ _ (by simp)]; assumption) | exact World.cell?_setCell_same' _ _ _ (by simp [*]))
      have b2 : w1.cell? ⟨w.heap.size, 2, none⟩ = some (.bool del) := (hb.cell (p := ⟨w.heap.size, 2, none⟩) (by simp <;> omega)).trans (by first | (go_simp; done) | (rw [World.cell?_setCell_other _ _ _ _ (by simp)]; assumption) | exact World.cell?_setCell_same' _ _ _ (by simp [*]))
      have b3 : w1.cell? ⟨w.heap.size, 3, none⟩ = some (.slice vo val.length vc) := (hb.cell (p := ⟨w.heap.size, 3, none⟩) (by simp <;> omega)).trans (by first | (go_simp; done) | (rw [World.cell?_setCell_other _ _ _ _ (by simp)]; assumption) | exact World.cell?_setCell_same' _ _ _ (by simp [*]))
      have b9 := World.block_lt_of_cell? w1 ⟨w.heap.size, 0, none⟩ b0
      obtain ⟨nd, -, -, h2, h3, h4, h5, h6, h7, h8, -⟩ := (HT.out.below HB1.out).beh HPL.out (j := 0) (by omega)
      rw [h2] at h5 h7
      rw [nxt0 (fun n hn => (HT.out.nds n (List.mem_cons_of_mem _ hn)).hh.1)] at h6
      have q0 : (0 : Int) < nd.h := by omega
      obtain ⟨q, hq⟩ : ∃ q, (L[pos]?).map (fun n => (⟨n.b, 0, none⟩ : Addr)) = q := ⟨_, rfl⟩
      rw [hq] at h6
      clear h2 hb hmay
      go_upto_region 5 with fail
      trace_state
      go_cut [84] (fun s84 wx => s84 = .bool (twiceB (L.map (·.x)) pos (key, seq, del, val)) ∧ Below (w1.alloc (.cells #[.pointer (some ⟨behB hd L pos 0, 0, none⟩), .pointer (some ⟨behB hd L pos 1, 0, none⟩), .pointer (some ⟨behB hd L pos 2, 0, none⟩), .pointer (some ⟨behB hd L pos 3, 0, none⟩), .pointer (some ⟨behB hd L pos 4, 0, none⟩), .pointer (some ⟨behB hd L pos 5, 0, none⟩), .pointer (some ⟨behB hd L pos 6, 0, none⟩), .pointer (some ⟨behB hd L pos 7, 0, none⟩), .pointer (some ⟨behB hd L pos 8, 0, none⟩), .pointer (some ⟨behB hd L pos 9, 0, none⟩), .pointer (some ⟨behB hd L pos 10, 0, none⟩), .pointer (some ⟨behB hd L pos 11, 0, none⟩)] 63)).heap.size (w1.alloc (.cells #[.pointer (some ⟨behB hd L pos 0, 0, none⟩), .pointer (some ⟨behB hd L pos 1, 0, none⟩), .pointer (some ⟨behB hd L pos 2, 0, none⟩), .pointer (some ⟨behB hd L pos 3, 0, none⟩), .pointer (some ⟨behB hd L pos 4, 0, none⟩), .pointer (some ⟨behB hd L pos 5, 0, none⟩), .pointer (some ⟨behB hd L pos 6, 0, none⟩), .pointer (some ⟨behB hd L pos 7, 0, none⟩), .pointer (some ⟨behB hd L pos 8, 0, none⟩), .pointer (some ⟨behB hd L pos 9, 0, none⟩), .pointer (some ⟨behB hd L pos 10, 0, none⟩), .pointer (some ⟨behB hd L pos 11, 0, none⟩)] 63)) wx)
      case first =>
        cases hx : L[pos]? with
        | none =>
          have HE : Hid (twiceB (L.map (·.x)) pos (key, seq, del, val) = false) := Lib.hid (by unfold twiceB; rw [List.getElem?_map, hx]; rfl)
          rw [hx] at hq
          simp only [Option.map_none] at hq
          subst hq
          clear hx
          go_wp2_with fail
          go_quiet (fail)
          go_wp2_with fail
          all_goals
            go_meet
            exact ⟨by rw [HE.out], below_drewN (Below.refl _ _) _⟩
        | some n =>
          rw [hx] at hq
          simp only [Option.map_some] at hq
          subst hq
          have hn := HT.out.nds n (List.mem_cons_of_mem _ (List.mem_of_getElem? hx))
          have hn1 := hn.keep (Chg.of_ext HB1.out)
          obtain ⟨n0, n1, n2, n3, -, nl⟩ := hn1.cells
          obtain ⟨no, nc, ek, -, -, -, -⟩ := hn1.k.form
          have HQ := Lib.hid (bytesEqual_any n.kv (.slice ko key.length kc) n.x.1 key ((w1.alloc (.cells #[.pointer (some ⟨behB hd L pos 0, 0, none⟩), .pointer (some ⟨behB hd L pos 1, 0, none⟩), .pointer (some ⟨behB hd L pos 2, 0, none⟩), .pointer (some ⟨behB hd L pos 3, 0, none⟩), .pointer (some ⟨behB hd L pos 4, 0, none⟩), .pointer (some ⟨behB hd L pos 5, 0, none⟩), .pointer (some ⟨behB hd L pos 6, 0, none⟩), .pointer (some ⟨behB hd L pos 7, 0, none⟩), .pointer (some ⟨behB hd L pos 8, 0, none⟩), .pointer (some ⟨behB hd L pos 9, 0, none⟩), .pointer (some ⟨behB hd L pos 10, 0, none⟩), .pointer (some ⟨behB hd L pos 11, 0, none⟩)] 63)).drew) (hn1.k.isB.alloc _).drew ((HK.out.below HB1.out).alloc _).drew)
          rw [ek] at n0 HQ
          have hT : twiceB (L.map (·.x)) pos (key, seq, del, val) = ((n.x.2.1 == seq) && decide (n.x.1 = key)) := by unfold twiceB; rw [List.getElem?_map, hx]; rfl
          clear hn hn1 ek hx n2 n3
          cases hsq : n.x.2.1 == seq
          · have HE : Hid (twiceB (L.map (·.x)) pos (key, seq, del, val) = false) := Lib.hid (by rw [hT, hsq]; rfl)
            clear hT HQ
            go_wp2_with fail
            go_quiet (fail)
            go_wp2_with fail
            all_goals
              go_meet
              exact ⟨by rw [HE.out], below_drewN (Below.refl _ _) _⟩
          · have HE : Hid (twiceB (L.map (·.x)) pos (key, seq, del, val) = decide (n.x.1 = key)) := Lib.hid (by rw [hT, hsq]; rfl)
            clear hT
            go_wp2_with fail
            go_region_held3 (fun w' => w' = (w1.alloc (.cells #[.pointer (some ⟨behB hd L pos 0, 0, none⟩), .pointer (some ⟨behB hd L pos 1, 0, none⟩), .pointer (some ⟨behB hd L pos 2, 0, none⟩), .pointer (some ⟨behB hd L pos 3, 0, none⟩), .pointer (some ⟨behB hd L pos 4, 0, none⟩), .pointer (some ⟨behB hd L pos 5, 0, none⟩), .pointer (some ⟨behB hd L pos 6, 0, none⟩), .pointer (some ⟨behB hd L pos 7, 0, none⟩), .pointer (some ⟨behB hd L pos 8, 0, none⟩), .pointer (some ⟨behB hd L pos 9, 0, none⟩), .pointer (some ⟨behB hd L pos 10, 0, none⟩), .pointer (some ⟨behB hd L pos 11, 0, none⟩)] 63)).drew) (first | rfl | assumption) (first | (go_at_call 29; refine HQ.out.mono ?_; rintro e w2 ⟨rfl, rfl⟩))
            go_wp2_with fail
            all_goals
              go_meet
              exact ⟨by rw [HE.out], (Below.refl _ _).drew⟩
      case rest =>
        obtain ⟨rfl, hbc⟩ := hcut
        have HBC := Lib.hid hbc
        have HBW : Hid (Below w.heap.size w wc) := Lib.hid (bel_call (bel_alloc HB1.out _) hbc)
        have E4 : Hid (∀ wx, Below (w1.alloc (.cells #[.pointer (some ⟨behB hd L pos 0, 0, none⟩), .pointer (some ⟨behB hd L pos 1, 0, none⟩), .pointer (some ⟨behB hd L pos 2, 0, none⟩), .pointer (some ⟨behB hd L pos 3, 0, none⟩), .pointer (some ⟨behB hd L pos 4, 0, none⟩), .pointer (some ⟨behB hd L pos 5, 0, none⟩), .pointer (some ⟨behB hd L pos 6, 0, none⟩), .pointer (some ⟨behB hd L pos 7, 0, none⟩), .pointer (some ⟨behB hd L pos 8, 0, none⟩), .pointer (some ⟨behB hd L pos 9, 0, none⟩), .pointer (some ⟨behB hd L pos 10, 0, none⟩), .pointer (some ⟨behB hd L pos 11, 0, none⟩)] 63)).heap.size (w1.alloc (.cells #[.pointer (some ⟨behB hd L pos 0, 0, none⟩), .pointer (some ⟨behB hd L pos 1, 0, none⟩), .pointer (some ⟨behB hd L pos 2, 0, none⟩), .pointer (some ⟨behB hd L pos 3, 0, none⟩), .pointer (some ⟨behB hd L pos 4, 0, none⟩), .pointer (some ⟨behB hd L pos 5, 0, none⟩), .pointer (some ⟨behB hd L pos 6, 0, none⟩), .pointer (some ⟨behB hd L pos 7, 0, none⟩), .pointer (some ⟨behB hd L pos 8, 0, none⟩), .pointer (some ⟨behB hd L pos 9, 0, none⟩), .pointer (some ⟨behB hd L pos 10, 0, none⟩), .pointer (some ⟨behB hd L pos 11, 0, none⟩)] 63)) wx → wx.cell? ⟨w.heap.size, 0, none⟩ = some (.slice ko key.length kc) ∧ wx.cell? ⟨w.heap.size, 1, none⟩ = some (.int .u64 seq) ∧ wx.cell? ⟨w.heap.size, 2, none⟩ = some (.bool del) ∧ wx.cell? ⟨w.heap.size, 3, none⟩ = some (.slice vo val.length vc)) := Lib.hid fun wx hb =>
          ⟨(hb.cell (p := ⟨w.heap.size, 0, none⟩) (by simp <;> omega)).trans (by go_simp), (hb.cell (p := ⟨w.heap.size, 1, none⟩) (by simp <;> omega)).trans (by go_simp), (hb.cell (p := ⟨w.heap.size, 2, none⟩) (by simp <;> omega)).trans (by go_simp), (hb.cell (p := ⟨w.heap.size, 3, none⟩) (by simp <;> omega)).trans (by go_simp)⟩
        obtain ⟨e0, e1, e2, e3⟩ := E4.out _ hbc
        clear hbc b0 b1 b2 b3 h3 h4 h5 h6 h7 h8 q0 hq b9
        cases htw : twiceB (L.map (·.x)) pos (key, seq, del, val)
        · have HTW := Lib.hid htw
          have HTc := Lib.hid (HT.out.below HBW.out)
          obtain ⟨t1, t2, t3, tlt⟩ := HTc.out.cells
          obtain ⟨hv, o1, o2, o3⟩ := HTc.out.obj
          have t0 : wc.cell? ⟨tb, 0, none⟩ = some hv := by rw [cell_of_row _ _ _ _ _ _ o1]; rfl
          obtain ⟨ho, hc, rfl, -, -, hz, -⟩ := own_form o2
          have O1 := Lib.hid o1
          have O2 := Lib.hid o2
          clear o1 o2 o3 htw
          go_upto_if 90 with fail
          go_cut [8] (fun s8 wx => s8 = .int .i64 (hgtI hs L.length) ∧ Below (w1.alloc (.cells #[.pointer (some ⟨behB hd L pos 0, 0, none⟩), .pointer (some ⟨behB hd L pos 1, 0, none⟩), .pointer (some ⟨behB hd L pos 2, 0, none⟩), .pointer (some ⟨behB hd L pos 3, 0, none⟩), .pointer (some ⟨behB hd L pos 4, 0, none⟩), .pointer (some ⟨behB hd L pos 5, 0, none⟩), .pointer (some ⟨behB hd L pos 6, 0, none⟩), .pointer (some ⟨behB hd L pos 7, 0, none⟩), .pointer (some ⟨behB hd L pos 8, 0, none⟩), .pointer (some ⟨behB hd L pos 9, 0, none⟩), .pointer (some ⟨behB hd L pos 10, 0, none⟩), .pointer (some ⟨behB hd L pos 11, 0, none⟩)] 63)).heap.size (w1.alloc (.cells #[.pointer (some ⟨behB hd L pos 0, 0, none⟩), .pointer (some ⟨behB hd L pos 1, 0, none⟩), .pointer (some ⟨behB hd L pos 2, 0, none⟩), .pointer (some ⟨behB hd L pos 3, 0, none⟩), .pointer (some ⟨behB hd L pos 4, 0, none⟩), .pointer (some ⟨behB hd L pos 5, 0, none⟩), .pointer (some ⟨behB hd L pos 6, 0, none⟩), .pointer (some ⟨behB hd L pos 7, 0, none⟩), .pointer (some ⟨behB hd L pos 8, 0, none⟩), .pointer (some ⟨behB hd L pos 9, 0, none⟩), .pointer (some ⟨behB hd L pos 10, 0, none⟩), .pointer (some ⟨behB hd L pos 11, 0, none⟩)] 63)) wx)
          case first =>
            by_cases hs0 : hs = []
            · have HE : Hid (hgtI hs L.length = 1) := Lib.hid (if_pos hs0)
              have q1 : ¬ (0 : Int) < hs.length := by rw [hs0]; simp
              clear hz hs0 t1 t2 t3
              go_wp2_with fail
              all_goals
                go_meet
                exact ⟨by rw [HE.out], HBC.out⟩
            · have q1 : (0 : Int) < hs.length := by have := List.length_pos_iff.2 hs0; omega
              have hkl : L.length % hs.length < hs.length := Nat.mod_lt _ (List.length_pos_iff.2 hs0)
              have HE : Hid (hgtI hs L.length = min (max (hs.getD (L.length % hs.length) 0) 1) 12) := Lib.hid (if_neg hs0)
              have hr : Int.tmod (L.length : Int) (hs.length : Int) = ((L.length % hs.length : Nat) : Int) := rfl
              generalize L.length % hs.length = k at *
              have hcell : (hs.map (Value.int .i64))[k]? = some (.int .i64 (hs.getD k 0)) := by
                rw [List.getElem?_map, List.getD_eq_getElem?_getD, List.getElem?_eq_getElem hkl]; rfl
              obtain ⟨g, hao, hbg, hgl, hcell'⟩ := own_cell O2.out hcell
              subst hao
              have q2 : (k : Int) < hs.length := by omega
              have q3 : (0 : Int) ≤ k := by omega
              generalize hs.getD k 0 = u at *
              clear hcell hz t1 t3
              go_wp2_with fail
              go_quiet (fail)
              go_wp2_with fail
              all_goals
                go_meet
                refine ⟨?_, below_drewN HBC.out _⟩
                rw [HE.out]
                congr 1
                omega
          case rest =>
            obtain ⟨rfl, hbd⟩ := hcut
            have HBD := Lib.hid hbd
            have HBX : Hid (Below w.heap.size w wc) := Lib.hid (bel_call (bel_alloc HB1.out _) hbd)
            clear e0 e1 e2 e3
            obtain ⟨e0, e1, e2, e3⟩ := E4.out _ hbd
            obtain ⟨h, hh, hh1, hh2⟩ : ∃ h : Nat, hgtI hs L.length = (h : Int) ∧ 1 ≤ h ∧ h ≤ 12 := by
              unfold hgtI
              split
              · exact ⟨1, rfl, by omega, by omega⟩
              · exact ⟨(min (max (hs.getD (L.length % hs.length) 0) 1) 12).toNat, by omega, by omega, by omega⟩
            have HH := Lib.hid hh
            rw [hh]
            obtain ⟨i0, hi0, hz0, hz1, hz2⟩ := info_parts infoPt
            have HI := Lib.hid hi0; have HZ0 := Lib.hid hz0; have HZ1 := Lib.hid hz1; have HZ2 := Lib.hid hz2
            have HSH : Hid (Short (key, seq, del, val)) := Lib.hid (may_short HMAY.out)
            have HKc := Lib.hid (HK.out.below HBX.out)
            have HVc := Lib.hid (HV.out.below HBX.out)
            have e9 : w.heap.size < wc.heap.size := World.block_lt_of_cell? wc ⟨w.heap.size, 0, none⟩ e0
            clear hbd hh hi0 hz0 hz1 hz2 t1 t2 t3 t0 tlt hz O1 O2 HTc HBW HBC
            go_upto_region 10 with fail
            go_cut [9] (fun s9 wx => ∃ n : Nd, s9 = .pointer (some ⟨n.b, 0, none⟩) ∧ NewN wc wx (key, seq, del, val) h n)
            case first =>
              obtain ⟨wm, hmm, hom, hgm⟩ := run_makeSlice_full (P := Try.prog) wc.drew wc.heap.size 55 54 i0 (.pointer none) 1 Try.underlying55 HI.out HZ0.out HZ1.out .i64 .i64 h (by omega) (by rw [HZ2.out]; omega) (by unfold maxLen; omega) (Nat.le_refl _)
              have RM := Lib.hid hom
              have gm : Below wc.heap.size wc wm := (Below.refl _ wc).drew.trans (below_own hgm (Nat.le_refl _) (fun k hk => by cases hk))
              have GM := Lib.hid gm
              have m0 : wm.cell? ⟨w.heap.size, 0, none⟩ = some (.slice ko key.length kc) := (GM.out.cell (p := ⟨w.heap.size, 0, none⟩) e9).trans e0
              have m1 : wm.cell? ⟨w.heap.size, 1, none⟩ = some (.int .u64 seq) := (GM.out.cell (p := ⟨w.heap.size, 1, none⟩) e9).trans e1
              have m2 : wm.cell? ⟨w.heap.size, 2, none⟩ = some (.bool del) := (GM.out.cell (p := ⟨w.heap.size, 2, none⟩) e9).trans e2
              have m3 : wm.cell? ⟨w.heap.size, 3, none⟩ = some (.slice vo val.length vc) := (GM.out.cell (p := ⟨w.heap.size, 3, none⟩) e9).trans e3
              clear hom hgm gm
              go_wp2_with fail
              go_region_held3 (fun w' => (w'.cell? ⟨w.heap.size, 0, none⟩ = some (.slice ko key.length kc) ∧ w'.cell? ⟨w.heap.size, 1, none⟩ = some (.int .u64 seq) ∧ w'.cell? ⟨w.heap.size, 2, none⟩ = some (.bool del) ∧ w'.cell? ⟨w.heap.size, 3, none⟩ = some (.slice vo val.length vc))) (first | exact ⟨by assumption, by assumption, by assumption, by assumption⟩ | go_keep) (first
                | (go_at_call 30; have hc := (own_any (.slice ko key.length kc) (.slice vo val.length vc) (key, seq, del, val) wc.drew HKc.out.drew HVc.out.drew HSH.out); with_reducible refine Calls.mono hc ?_; clear hc; unfold OwnP; rintro e wf ⟨v1, v2, rfl, h1, h2, gf⟩; obtain ⟨ko1, kc1, rfl, -, -, -, -⟩ := h1.form; obtain ⟨vo1, vc1, rfl, -, -, -, -⟩ := h2.form; have H1 := Lib.hid h1; have H2 := Lib.hid h2; have GF : Hid (Below wc.heap.size wc wf) := Lib.hid (bel_of_drew gf); have a0 : wf.cell? ⟨w.heap.size, 0, none⟩ = some (.slice ko key.length kc) := (GF.out.cell (p := ⟨w.heap.size, 0, none⟩) e9).trans e0; have a1 : wf.cell? ⟨w.heap.size, 1, none⟩ = some (.int .u64 seq) := (GF.out.cell (p := ⟨w.heap.size, 1, none⟩) e9).trans e1; have a2 : wf.cell? ⟨w.heap.size, 2, none⟩ = some (.bool del) := (GF.out.cell (p := ⟨w.heap.size, 2, none⟩) e9).trans e2; have a3 : wf.cell? ⟨w.heap.size, 3, none⟩ = some (.slice vo val.length vc) := (GF.out.cell (p := ⟨w.heap.size, 3, none⟩) e9).trans e3; obtain ⟨wz, hmz, hoz, hgz⟩ := run_makeSlice_full (P := Try.prog) wf wc.heap.size 55 54 i0 (.pointer none) 1 Try.underlying55 HI.out HZ0.out HZ1.out .i64 .i64 h (by omega) (by rw [HZ2.out]; omega) (by unfold maxLen; omega) GF.out.size; have RZ := Lib.hid hoz; have gz : Below wf.heap.size wf wz := below_own hgz (Nat.le_refl _) (fun k hk => by cases hk); have KZ := Lib.hid (H1.out.below gz); have VZ := Lib.hid (H2.out.below gz); have GZ : Hid (Below wc.heap.size wc wz) := Lib.hid (bel_call GF.out gz); have z0 : wz.cell? ⟨w.heap.size, 0, none⟩ = some (.slice ko key.length kc) := (GZ.out.cell (p := ⟨w.heap.size, 0, none⟩) e9).trans e0; have z1 : wz.cell? ⟨w.heap.size, 1, none⟩ = some (.int .u64 seq) := (GZ.out.cell (p := ⟨w.heap.size, 1, none⟩) e9).trans e1; have z2 : wz.cell? ⟨w.heap.size, 2, none⟩ = some (.bool del) := (GZ.out.cell (p := ⟨w.heap.size, 2, none⟩) e9).trans e2; have z3 : wz.cell? ⟨w.heap.size, 3, none⟩ = some (.slice vo val.length vc) := (GZ.out.cell (p := ⟨w.heap.size, 3, none⟩) e9).trans e3; clear h1 h2 gf hoz hgz gz)
                | (go_at_call 30; have hc := (own_any (.slice ko key.length kc) (.slice vo val.length vc) (key, seq, del, val) wm (HKc.out.below GM.out) (HVc.out.below GM.out) HSH.out); with_reducible refine Calls.mono hc ?_; clear hc; unfold OwnP; rintro e wz ⟨v1, v2, rfl, h1, h2, gf⟩; obtain ⟨ko1, kc1, rfl, -, -, -, -⟩ := h1.form; obtain ⟨vo1, vc1, rfl, -, -, -, -⟩ := h2.form; have KZ := Lib.hid (h1.mono GM.out.size); have VZ := Lib.hid (h2.mono GM.out.size); have RZ := Lib.hid (own_below RM.out gf); have GZ : Hid (Below wc.heap.size wc wz) := Lib.hid (bel_call GM.out gf); have z0 : wz.cell? ⟨w.heap.size, 0, none⟩ = some (.slice ko key.length kc) := (GZ.out.cell (p := ⟨w.heap.size, 0, none⟩) e9).trans e0; have z1 : wz.cell? ⟨w.heap.size, 1, none⟩ = some (.int .u64 seq) := (GZ.out.cell (p := ⟨w.heap.size, 1, none⟩) e9).trans e1; have z2 : wz.cell? ⟨w.heap.size, 2, none⟩ = some (.bool del) := (GZ.out.cell (p := ⟨w.heap.size, 2, none⟩) e9).trans e2; have z3 : wz.cell? ⟨w.heap.size, 3, none⟩ = some (.slice vo val.length vc) := (GZ.out.cell (p := ⟨w.heap.size, 3, none⟩) e9).trans e3; clear h1 h2 gf))
              all_goals
                go_wp2_with fail
                all_goals
                  go_meet
                  exact ⟨_, rfl, newN_of KZ.out VZ.out RZ.out GZ.out HU.out ⟨hh1, hh2⟩ HSH.out⟩
            case rest =>
              obtain ⟨n, rfl, hN⟩ := hcut
              obtain rfl := hN.hh
              have hbe := bel_call HBD.out hN.bel
              have HBE := Lib.hid hbe
              have HX : Hid (Below w.heap.size w wc) := Lib.hid (bel_call (bel_alloc HB1.out _) hbe)
              have HTE := Lib.hid (HT.out.below HX.out)
              have hle : w.heap.size ≤ n.r := Nat.le_trans HBX.out.size hN.nd.sr.1
              have XNE : Hid (¬ RowsOf hd L n w.heap.size) := Lib.hid fun ⟨nd, h1, h2⟩ => by
                rcases List.mem_cons.1 h1 with rfl | h1
                · have := hN.nd.sr.1; omega
                · have := HT.out.lt _ (HT.out.nds nd h1).sr; omega
              have HTB : Hid (∀ nd ∈ hd :: L, S nd.r) := Lib.hid fun nd h => (HT.out.nds nd h).sr
              clear e0 e1 e2 e3
              obtain ⟨e0, e1, e2, e3⟩ := E4.out _ hbe
              obtain ⟨-, -, -, -, n4, nl⟩ := hN.nd.cells
              have HBK : Hid (wc.heap[w1.heap.size]? = some (.cells (behA hd L pos).toArray 63 (0, 0))) := Lib.hid ((hbe.block w1.heap.size (by simp)).trans (heap_alloc_new w1 _))
              have HNE : Hid ((n :: hd :: L).Pairwise fun a b => a.r ≠ b.r) := Lib.hid (List.pairwise_cons.2 ⟨fun nd hnd => by
                have := HT.out.lt _ (HT.out.nds nd hnd).sr
                omega, HT.out.rne⟩)
              have htyp : ∀ nd ∈ n :: hd :: L, ∃ cur, wc.heap[nd.r]? = some (.cells cur 54 (0, 0)) ∧ cur.size = nd.h := fun nd hnd => by
                rcases List.mem_cons.1 hnd with rfl | hnd
                · exact hN.nd.row
                · exact (HTE.out.nds nd hnd).row
              have NR : Hid (∀ b cur e, wc.heap[b]? = some (.cells cur e (0, 0)) → e ≠ 54 → ¬ RowsOf hd L n b) := Lib.hid fun b cur e h1 h2 ⟨nd, h3, h4⟩ => by
                obtain ⟨c2, h5, -⟩ := htyp nd h3
                rw [h4] at h1
                exact h2 (types_apart h1 h5)
              have HP0 : Hid (PutI wc wc hd L pos n 0) := Lib.hid ⟨Chg.refl _ _, fun idx nd hx j hj => by
                have := HTE.out.ptrs idx nd hx j hj
                rw [List.drop_succ_cons] at this
                rw [this]
                unfold ptrOf
                rw [if_neg (by omega)], fun j hj => by rw [hN.nil j hj, if_neg (by omega)], htyp⟩
              have HNN := Lib.hid hN.nd
              have HNX := Lib.hid hN.hx
              have HBXS : Hid (w.heap.size ≤ _) := Lib.hid HBX.out.size
              clear hbe htyp hN HBD HBX HKc HVc HSH E4
              go_wp2_with fail
              go_loopw [120] (fun i wr => ∃ k : Nat, k ≤ n.h ∧ i = .int .i64 k ∧ Hid (PutI wc wr hd L pos n k)) (fun i _ => n.h - (intOf i).toNat)
              case atStart => exact ⟨0, Nat.zero_le _, rfl, HP0.out⟩
              case round =>
                obtain ⟨k, hk, rfl, hpi⟩ := hrel
                by_cases hlt : k < n.h
                · obtain ⟨nb, hb1, hb2, hb3, hb4, hb5⟩ := beh_spec (hd := hd) (L := L) pos HPL.out HT.out.hh (j := k) (by omega)
                  have hbm := List.mem_of_getElem? hb1
                  have hnbw := HTE.out.nds nb hbm
                  obtain ⟨-, -, -, -, nb4, nbl⟩ := hnbw.cells
                  have c1 := (hpi.out.chg.cell nl (NR.out _ _ _ HNN.out.obj (by decide))).trans n4
                  have c3 := (hpi.out.chg.cell nbl (NR.out _ _ _ hnbw.obj (by decide))).trans nb4
                  have c2 : wr.cell? ⟨w1.heap.size, k, none⟩ = some (.pointer (some ⟨behB hd L pos k, 0, none⟩)) := (hpi.out.chg.cell (Array.getElem?_eq_some_iff.1 HBK.out).1 (NR.out _ _ _ HBK.out (by decide))).trans (by
                    rw [cell_of_row _ _ _ _ _ _ HBK.out]
                    simp [behA, show k < 12 by omega])
                  have c4 := hpi.out.rows _ nb hb1 k hb3
                  have ep : ptrOf L pos n k (behL (hts L) pos k) k = nxt (L.drop pos) k := by
                    unfold ptrOf
                    rw [if_neg (by omega), nxt_skip _ hb4 HPL.out hb5]
                  rw [ep] at c4
                  have c5 := hpi.out.nrow k hlt
                  rw [if_neg (by omega)] at c5
                  obtain ⟨cu, cu1, cu2⟩ := hpi.out.typ nb (List.mem_cons_of_mem _ hbm)
                  obtain ⟨cv, cv1, cv2⟩ := hpi.out.typ n (List.mem_cons_self ..)
                  have f4 : wr.frozen? ⟨nb.r, k, none⟩ = false := frozen_of_row _ _ _ _ _ cu1
                  have f5 : wr.frozen? ⟨n.r, k, none⟩ = false := frozen_of_row _ _ _ _ _ cv1
                  have l4 := (Array.getElem?_eq_some_iff.1 cu1).1
                  have l5 := (Array.getElem?_eq_some_iff.1 cv1).1
                  have nlr : n.b < wr.heap.size := Nat.lt_of_lt_of_le nl hpi.out.chg.size
                  have nblr : nb.b < wr.heap.size := Nat.lt_of_lt_of_le nbl hpi.out.chg.size
                  have hrr : nb.r ≠ n.r := fun e => (List.pairwise_cons.1 HNE.out).1 nb hbm e.symm
                  have HST := Lib.hid (PutI.step (wr := wr.drew) ⟨hpi.out.chg.drew, hpi.out.rows, hpi.out.nrow, hpi.out.typ⟩ HPL.out HT.out.hh hlt hh2 HNE.out hb1 hb3)
                  have x1 : n.r ≠ w1.heap.size := fun e => NR.out _ _ _ HBK.out (by decide) ⟨n, List.mem_cons_self .., e.symm⟩
                  have x2 : n.r ≠ nb.b := fun e => NR.out _ _ _ hnbw.obj (by decide) ⟨n, List.mem_cons_self .., e.symm⟩
                  have d2 := (World.cell?_setCell_other wr ⟨n.r, k, none⟩ ⟨w1.heap.size, k, none⟩ (.pointer (nxt (L.drop pos) k)) (fun e => x1 (by simp only [Addr.mk.injEq] at e; exact e.1))).trans c2
                  have d3 := (World.cell?_setCell_other wr ⟨n.r, k, none⟩ ⟨nb.b, 4, none⟩ (.pointer (nxt (L.drop pos) k)) (fun e => x2 (by simp only [Addr.mk.injEq] at e; exact e.1))).trans c3
                  have d4 := (World.cell?_setCell_other wr ⟨n.r, k, none⟩ ⟨nb.r, k, none⟩ (.pointer (nxt (L.drop pos) k)) (fun e => hrr (by simp only [Addr.mk.injEq] at e; exact e.1.symm))).trans c4
                  rw [hb2] at c3 nblr d3
                  have q1 : (k : Int) < n.h := by omega
                  have q2 : (k : Int) < nb.h := by omega
                  have q3 : (k : Int) < 12 := by omega
                  have hw1 := IntWalk.i64_in ((k : Int) + 1) (by omega)
                  clear hb1 hb4 hb5 ep cu1 cv1 hnbw hbm nb4 x1 x2
                  go_wp2_with fail
                  refine wp_region_still_tail 15 (by kernel_rfl) (by kernel_rfl) ?_
                  show wpStill _ _ (World.drew _) _ _ _
                  simp only [List.take_succ_cons, List.take_zero, List.drop_succ_cons, List.drop_zero]
                  still_step; still_step; still_step; still_step; still_step; still_step; still_step; still_step; still_step; still_step; still_step; still_step; still_step; still_step; still_step
                  refine wpStill_nil ?_
                  show wpList _ _ _ _ _ (World.drew _)
                  go_wp2_with fail
                  go_roundw
                  case rel => exact ⟨k + 1, by omega, by go_num, HST.out⟩
                  case measure => simp [intOf]; omega
                · have hkl : k = n.h := by omega
                  subst hkl
                  have hx : n.x = (key, seq, del, val) := HNX.out
                  obtain ⟨hv9, o1, -, -⟩ := HTE.out.obj
                  have o2 := (hpi.out.chg.block _ (Array.getElem?_eq_some_iff.1 o1).1 (NR.out _ _ _ o1 (by decide))).trans o1
                  have g2 : wr.cell? ⟨tb, 2, none⟩ = some (.int .i64 L.length) := by rw [cell_of_row _ _ _ _ _ _ o2]; rfl
                  have g3 : wr.cell? ⟨tb, 3, none⟩ = some (.int .i64 (bytesE (L.map (·.x)))) := by rw [cell_of_row _ _ _ _ _ _ o2]; rfl
                  have gf2 : wr.frozen? ⟨tb, 2, none⟩ = false := frozen_of_row _ _ _ _ _ o2
                  have gf3 : wr.frozen? ⟨tb, 3, none⟩ = false := frozen_of_row _ _ _ _ _ o2
                  have gl := (Array.getElem?_eq_some_iff.1 o2).1
                  have elt : w.heap.size < wc.heap.size := World.block_lt_of_cell? wc ⟨w.heap.size, 0, none⟩ e0
                  have x0 := (hpi.out.chg.cell elt XNE.out).trans e0
                  have x3 := (hpi.out.chg.cell elt XNE.out).trans e3
                  have hbb := bytes_bound L HT.out.may
                  have hln := HN.out
                  have hmm := HMAY.out
                  unfold mayB at hmm
                  simp only [Bool.and_eq_true, decide_eq_true_eq] at hmm
                  obtain ⟨-, k1, -, -, k2, -⟩ := hmm
                  generalize hB : bytesE (L.map (·.x)) = BB at *
                  have hw1 := IntWalk.i64_in ((L.length : Int) + 1) (by omega)
                  have hw2 := IntWalk.i64_in ((key.length : Int) + val.length) (by omega)
                  have hw3 := IntWalk.i64_in ((key.length : Int) + val.length + 16) (by omega)
                  have hw4 := IntWalk.i64_in ((BB : Int) + ((key.length : Int) + val.length + 16)) (by omega)
                  have HPC : Hid (putC (L.map (·.x)) pos (key, seq, del, val) = 0) := Lib.hid (by unfold putC; rw [if_neg (by rw [HMAY.out]; decide), if_neg (by rw [HTW.out]; decide)])
                  have hasc : Asc ((insN L pos n).map (·.x)) := by
                    have := asc_ins (x := n.x) HT.out.asc HP.out.1 (by rw [hx]; exact HP.out.2) (fun y hy h => by
                      have h9 := HTW.out
                      unfold twiceB at h9
                      rw [hy, hx] at *
                      simp only [Bool.and_eq_false_iff, beq_eq_false_iff_ne, decide_eq_false_iff_not] at h9
                      rcases h9 with h9 | h9
                      · exact h9 h.2
                      · exact h9 h.1)
                    unfold insN
                    rw [List.map_append, List.map_cons, List.map_take, List.map_drop]
                    exact this
                  have HFIN : Hid (PutP S tb hs hd L pos (key, seq, del, val) w (.returned (.int .i64 0)) ((wr.setCell ⟨tb, 2, none⟩ (.int .i64 ((L.length : Int) + 1))).setCell ⟨tb, 3, none⟩ (.int .i64 ((BB : Int) + ((key.length : Int) + val.length + 16)))).drew) := Lib.hid (by
                    have ht0 := HTE.out.put HNN.out hpi.out HPL.out HNE.out hasc (by rw [hx]; exact HMAY.out) HN.out (a := (L.length : Int) + 1) (b := (BB : Int) + ((key.length : Int) + val.length + 16)) rfl (by rw [hB, hx]; simp only [sizeE]; omega)
                    have ht := ht0.keep (Chg.refl _ _).drew
                    have hsz : w.heap.size ≤ wr.heap.size := Nat.le_trans HX.out.size hpi.out.chg.size
                    refine ⟨by rw [HPC.out], ?_, insN L pos n, ht.mono (fun k hk => ?_) (fun k hk => ?_), ?_⟩
                    · have hc := (Chg.of_ext (S := S) HX.out).fresh hpi.out.chg (fun k hk ⟨nd, h1, h2⟩ => by
                        rcases List.mem_cons.1 h1 with rfl | h1
                        · omega
                        · rw [h2]; exact HTB.out nd h1)
                      exact ((hc.set (p := ⟨tb, 2, none⟩) (fun _ => HT.out.stb) _).set (p := ⟨tb, 3, none⟩) (fun _ => HT.out.stb) _).drew
                    · rcases hk with hk | hk
                      · exact .inl hk
                      · refine .inr ⟨?_, by have := hk.2; simpa [World.drew] using this⟩
                        have := hk.1
                        have := HBXS.out
                        omega
                    · rcases hk with hk | hk
                      · have := HT.out.lt k hk
                        simp [World.drew]
                        omega
                      · exact hk.2
                    · rw [ndP_ins, HPC.out, hx]
                      unfold putN
                      rw [if_pos rfl, show (hgtI hs L.length).toNat = n.h by rw [HH.out]; rfl])
                  clear o1 o2 hasc hx hbb hln hB hpi
                  go_wp2_with fail
                  refine wp_region_still_tail 15 (by kernel_rfl) (by kernel_rfl) ?_
                  show wpStill _ _ (World.drew _) _ _ _
                  simp only [List.take_succ_cons, List.take_zero, List.drop_succ_cons, List.drop_zero]
                  still_step; still_step; still_step; still_step; still_step; still_step; still_step; still_step; still_step; still_step; still_step; still_step; still_step; still_step; still_step
                  refine wpStill_nil ?_
                  show wpList _ _ _ _ _ (World.drew _)
                  go_wp2_with fail
                  go_ret
                  exact HFIN.out
        · have HPC : Hid (putC (L.map (·.x)) pos (key, seq, del, val) = 51) := Lib.hid (by unfold putC; rw [if_neg (by rw [HMAY.out]; decide), if_pos htw])
          clear htw
          go_wp2_with fail
          go_ret
          exact putP_same HT.out HBW.out HPC.out (by decide)
end Mt
end Go.Proofs.Ytgkgfghmpimaoaa
