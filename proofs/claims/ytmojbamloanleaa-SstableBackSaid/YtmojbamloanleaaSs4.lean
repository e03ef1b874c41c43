/- sstable: lay (walk). -/
import Derived.Test.YtmojbamloanleaaSs3
import Derived.Test.YtmojbamloanleaaWalNum
import Derived.Deep.CutBlock
set_option linter.unusedVariables false
set_option linter.unusedSimpArgs false
namespace Go.Proofs.Ytmojbamloanleaa
open Go.RowKit
namespace Ss
open Mt Codec
set_option maxRecDepth 100000 in
set_option maxHeartbeats 8000000 in
theorem lay_true (base : Nat) (bo : Option Addr) (av kv vv : Value) (l a key val : List Int) (s : Nat) (w : World) (hbw : OwnS w base 5 (.slice bo l.length l.length) l) (hll : l.length ≤ 1099511627776) (ha : IsB w av a) (hk : IsB w kv key) (hv : IsB w vv val) (hs : s < 18446744073709551616) (hkl : key.length ≤ 256) (hvl : val.length ≤ 65536) :
    Calls Try.prog 63 #[.slice bo l.length l.length, av, .agg #[kv, .int .u64 (s : Int), .bool true, vv]] w (LaidP (l ++ layS a (key, (s : Int), true, val)) w) := by
  obtain ⟨i0, hi0, hz0, hz1, hz2⟩ := info_parts infoU8
  have HI := Lib.hid hi0; have HZ0 := Lib.hid hz0; have HZ1 := Lib.hid hz1; have HZ2 := Lib.hid hz2
  obtain ⟨ao, ac, rfl, -, -, -⟩ := ha.form
  obtain ⟨ko, kc, rfl, -, -, -⟩ := hk.form
  obtain ⟨vo, vc, rfl, -, -, -⟩ := hv.form
  have hN := (comL_le a key).2
  have hN2 := (comL_le a key).1
  have ham := ha.max
  have HSZ : Hid ((l ++ numN (comL a key) ++ numN (key.length - (comL a key)) ++ numN s ++ [(1 : Int)] ++ numN val.length ++ key.drop (comL a key) ++ val).length ≤ 2199023255552) := Lib.hid (by
    have h1 := numN_len10 (n := comL a key) (by omega)
    have h2 := numN_len10 (n := key.length - comL a key) (by omega)
    have h3 := numN_len10 hs
    have h4 := numN_len10 (n := val.length) (by omega)
    simp only [List.length_append, List.length_singleton, List.length_drop]
    omega)
  have HLAY : Hid (l ++ layS a (key, (s : Int), true, val) = l ++ numN (comL a key) ++ numN (key.length - (comL a key)) ++ numN s ++ [(1 : Int)] ++ numN val.length ++ key.drop (comL a key) ++ val) := Lib.hid (by simp [layS])
  have HRNG : Hid (Rng (l ++ numN (comL a key) ++ numN (key.length - (comL a key)) ++ numN s ++ [(1 : Int)] ++ numN val.length ++ key.drop (comL a key) ++ val)) := Lib.hid (((((((hbw.rng.append (numN_rng _)).append (numN_rng _)).append (numN_rng _)).append (Rng.cons (by decide) Rng.nil)).append (numN_rng _)).append (hk.rng.drop _)).append hv.rng)
  have HK : Hid (IsB (w.alloc (.cells #[.slice ko key.length kc, .int .u64 ((s : Nat) : Int), .bool true, .slice vo val.length vc] 46)) (.slice ko key.length kc) key) := Lib.hid (hk.alloc _)
  have HV : Hid (IsB (w.alloc (.cells #[.slice ko key.length kc, .int .u64 ((s : Nat) : Int), .bool true, .slice vo val.length vc] 46)) (.slice vo val.length vc) val) := Lib.hid (hv.alloc _)
  have HA : Hid (IsB (w.alloc (.cells #[.slice ko key.length kc, .int .u64 ((s : Nat) : Int), .bool true, .slice vo val.length vc] 46)) (.slice ao a.length ac) a) := Lib.hid (ha.alloc _)
  have HBW0 : Hid (OwnS (w.alloc (.cells #[.slice ko key.length kc, .int .u64 ((s : Nat) : Int), .bool true, .slice vo val.length vc] 46)) base 5 (.slice bo l.length l.length) l) := Lib.hid (hbw.alloc _)
  have q1 := IntWalk.u64_in ((comL a key : Nat) : Int) (by omega)
  have q2 : (key.length : Int) - ((comL a key : Nat) : Int) = ((key.length - comL a key : Nat) : Int) := by omega
  have q3 := IntWalk.i64_in ((key.length - comL a key : Nat) : Int) (by omega)
  have q4 := IntWalk.u64_in ((key.length - comL a key : Nat) : Int) (by omega)
  have q5 := IntWalk.u64_in ((val.length : Nat) : Int) (by omega)
  have q6 : ((comL a key : Nat) : Int) ≤ key.length := by omega
  have q7 : (0 : Int) ≤ ((comL a key : Nat) : Int) := by omega
  clear hi0 hz0 hz1 hz2 ha hk hv hbw
  go_enter Try.func63, Try.ntmps63
  go_upto_block 0 with fail
  go_cut [7] (fun sv wx => sv = .int .i64 (comL a key) ∧ Below (w.alloc (.cells #[.slice ko key.length kc, .int .u64 ((s : Nat) : Int), .bool true, .slice vo val.length vc] 46)).heap.size (w.alloc (.cells #[.slice ko key.length kc, .int .u64 ((s : Nat) : Int), .bool true, .slice vo val.length vc] 46)) wx)
  case first =>
    go_wp2_with fail
    go_loopw [7] (fun i wr => ∃ n : Nat, n ≤ comL a key ∧ i = .int .i64 n ∧ Hid (Below (w.alloc (.cells #[.slice ko key.length kc, .int .u64 ((s : Nat) : Int), .bool true, .slice vo val.length vc] 46)).heap.size (w.alloc (.cells #[.slice ko key.length kc, .int .u64 ((s : Nat) : Int), .bool true, .slice vo val.length vc] 46)) wr)) (fun i _ => a.length - (intOf i).toNat)
    case atStart => exact ⟨0, Nat.zero_le _, rfl, Below.refl _ _⟩
    case round =>
      obtain ⟨n, hn, rfl, hb⟩ := hrel
      have HB := Lib.hid hb.out
      have HAw := Lib.hid (HA.out.below HB.out)
      have HKw := Lib.hid (HK.out.below HB.out)
      have e0 : wr.cell? ⟨w.heap.size, 0, none⟩ = some (.slice ko key.length kc) := (HB.out.cell (p := ⟨w.heap.size, 0, none⟩) (by simp)).trans (by go_simp)
      have e1 : wr.cell? ⟨w.heap.size, 1, none⟩ = some (.int .u64 ((s : Nat) : Int)) := (HB.out.cell (p := ⟨w.heap.size, 1, none⟩) (by simp)).trans (by go_simp)
      have e2 : wr.cell? ⟨w.heap.size, 2, none⟩ = some (.bool true) := (HB.out.cell (p := ⟨w.heap.size, 2, none⟩) (by simp)).trans (by go_simp)
      have e3 : wr.cell? ⟨w.heap.size, 3, none⟩ = some (.slice vo val.length vc) := (HB.out.cell (p := ⟨w.heap.size, 3, none⟩) (by simp)).trans (by go_simp)
      have zw : w.heap.size < wr.heap.size := Nat.lt_of_lt_of_le (by simp) HB.out.size
      by_cases hlt : n < comL a key
      · obtain ⟨x, hx, hy⟩ := comL_at a key n hlt
        obtain ⟨b1, o1, y1, hao, hb1, hy1, hc1, r1, r2⟩ := HAw.out.at_ (k := n) (by omega)
        obtain ⟨b2, o2, y2, hbo, hb2, hy2, hc2, r3, r4⟩ := HKw.out.at_ (k := n) (by omega)
        subst hao hbo
        have e1' : y1 = x := by have := hy1.out; rw [hx] at this; exact (Option.some.inj this).symm
        have e2' : y2 = x := by have := hy2.out; rw [hy] at this; exact (Option.some.inj this).symm
        subst e1' e2'
        have q1 : (n : Int) < a.length := by omega
        have q2 : (n : Int) < key.length := by omega
        have q3 : (y2 == y2) = true := by simp
        have p9 := IntWalk.i64_in ((n : Int) + 1) (by omega)
        clear hx hy hy1 hy2 hb
        by_cases hml : key.length < a.length
        · have m1 : (key.length : Int) < a.length := by omega
          go_wp2_with fail
          go_quiet (fail)
          go_wp2_with fail
          refine ⟨⟨n + 1, by omega, by go_num, below_drewN HB.out _⟩, ?_⟩
          simp [intOf]
          omega
        · have m1 : ¬ (key.length : Int) < a.length := by omega
          go_wp2_with fail
          go_quiet (fail)
          go_wp2_with fail
          refine ⟨⟨n + 1, by omega, by go_num, below_drewN HB.out _⟩, ?_⟩
          simp [intOf]
          omega
      · have hne : n = comL a key := by omega
        subst hne
        clear hlt hn hb
        by_cases k12 : comL a key < a.length ∧ comL a key < key.length
        · obtain ⟨k1, k2⟩ := k12
          have q1 : ((comL a key : Nat) : Int) < a.length := by omega
          have q2 : ((comL a key : Nat) : Int) < key.length := by omega
          obtain ⟨x, y, hx, hy, hxy⟩ := comL_stop a key k1 k2
          obtain ⟨b1, o1, y1, hao, hb1, hy1, hc1, r1, r2⟩ := HAw.out.at_ (k := comL a key) k1
          obtain ⟨b2, o2, y2, hbo, hb2, hy2, hc2, r3, r4⟩ := HKw.out.at_ (k := comL a key) k2
          subst hao hbo
          have e1' : y1 = x := by have := hy1.out; rw [hx] at this; exact (Option.some.inj this).symm
          have e2' : y2 = y := by have := hy2.out; rw [hy] at this; exact (Option.some.inj this).symm
          subst e1' e2'
          have q3 : (y1 == y2) = false := by simp [hxy]
          clear hx hy hy1 hy2
          by_cases hml : key.length < a.length
          · have m1 : (key.length : Int) < a.length := by omega
            go_wp2_with fail
            go_quiet (fail)
            go_wp2_with fail
            all_goals
              go_meet
              exact ⟨rfl, below_drewN HB.out _⟩
          · have m1 : ¬ (key.length : Int) < a.length := by omega
            go_wp2_with fail
            go_quiet (fail)
            go_wp2_with fail
            all_goals
              go_meet
              exact ⟨rfl, below_drewN HB.out _⟩
        · by_cases hml : key.length < a.length
          · have k2 : ¬ comL a key < key.length := by omega
            have q2 : decide (comL a key < key.length) = false := decide_eq_false k2
            have m1 : (key.length : Int) < a.length := by omega
            clear k12
            go_wp2_with fail
            go_quiet (fail)
            go_wp2_with fail
            all_goals
              go_meet
              exact ⟨rfl, below_drewN HB.out _⟩
          · have k1 : ¬ comL a key < a.length := by omega
            have q1 : decide (comL a key < a.length) = false := decide_eq_false k1
            have m1 : ¬ (key.length : Int) < a.length := by omega
            clear k12
            go_wp2_with fail
            go_quiet (fail)
            go_wp2_with fail
            all_goals
              go_meet
              exact ⟨rfl, below_drewN HB.out _⟩
  case rest =>
    obtain ⟨rfl, hbc⟩ := hcut
    have G1 : Hid (Below (w.alloc (.cells #[.slice ko key.length kc, .int .u64 ((s : Nat) : Int), .bool true, .slice vo val.length vc] 46)).heap.size (w.alloc (.cells #[.slice ko key.length kc, .int .u64 ((s : Nat) : Int), .bool true, .slice vo val.length vc] 46)) wc) := Lib.hid hbc
    have e0 : wc.cell? ⟨w.heap.size, 0, none⟩ = some (.slice ko key.length kc) := (G1.out.cell (p := ⟨w.heap.size, 0, none⟩) (by simp)).trans (by go_simp)
    have e1 : wc.cell? ⟨w.heap.size, 1, none⟩ = some (.int .u64 ((s : Nat) : Int)) := (G1.out.cell (p := ⟨w.heap.size, 1, none⟩) (by simp)).trans (by go_simp)
    have e2 : wc.cell? ⟨w.heap.size, 2, none⟩ = some (.bool true) := (G1.out.cell (p := ⟨w.heap.size, 2, none⟩) (by simp)).trans (by go_simp)
    have e3 : wc.cell? ⟨w.heap.size, 3, none⟩ = some (.slice vo val.length vc) := (G1.out.cell (p := ⟨w.heap.size, 3, none⟩) (by simp)).trans (by go_simp)
    have ze1 : w.heap.size < wc.heap.size := Nat.lt_of_lt_of_le (by simp) G1.out.size
    clear hbc
    go_wp2_with fail
    refine (number_any (comL a key) _ (by omega)).mono ?_
    unfold NumPost
    rintro e w2 ⟨va, rfl, ho, hb⟩
    have Nva := Lib.hid ho.isB
    have G2 : Hid (Below (w.alloc (.cells #[.slice ko key.length kc, .int .u64 ((s : Nat) : Int), .bool true, .slice vo val.length vc] 46)).heap.size (w.alloc (.cells #[.slice ko key.length kc, .int .u64 ((s : Nat) : Int), .bool true, .slice vo val.length vc] 46)) w2) := Lib.hid (bel_call G1.out hb)
    have HBS : Hid (Below wc.heap.size wc w2) := Lib.hid hb
    obtain ⟨vao, vac, rfl, -, -, -, -⟩ := ho.form
    clear ho hb e0 e1 e2 e3
    have e0 : w2.cell? ⟨w.heap.size, 0, none⟩ = some (.slice ko key.length kc) := (G2.out.cell (p := ⟨w.heap.size, 0, none⟩) (by simp)).trans (by go_simp)
    have e1 : w2.cell? ⟨w.heap.size, 1, none⟩ = some (.int .u64 ((s : Nat) : Int)) := (G2.out.cell (p := ⟨w.heap.size, 1, none⟩) (by simp)).trans (by go_simp)
    have e2 : w2.cell? ⟨w.heap.size, 2, none⟩ = some (.bool true) := (G2.out.cell (p := ⟨w.heap.size, 2, none⟩) (by simp)).trans (by go_simp)
    have e3 : w2.cell? ⟨w.heap.size, 3, none⟩ = some (.slice vo val.length vc) := (G2.out.cell (p := ⟨w.heap.size, 3, none⟩) (by simp)).trans (by go_simp)
    have zzva : w.heap.size < w2.heap.size := Nat.lt_of_lt_of_le (by simp) G2.out.size
    have HBW : Hid (OwnS w2 base 5 (.slice bo l.length l.length) l) := Lib.hid (HBW0.out.below G2.out)
    go_wp2_with (at_builtin; refine wpList_append_clip (w := w2) (.tmp 33) (.tmp 36) _ rfl rfl i0 Try.underlying25 HI.out HZ0.out HZ1.out HZ2.out _ rfl rfl HBW.out Nva.out (numN_pos _) (by have := HSZ.out; simp only [List.length_append, List.length_singleton, List.length_drop] at this ⊢; omega) ?_; intro x0 w3 ho0 hg0; have O0 : Hid (w3.ownsRow (w.alloc (.cells #[.slice ko key.length kc, .int .u64 ((s : Nat) : Int), .bool true, .slice vo val.length vc] 46)).heap.size 5 1 x0 (l.length + (numN (comL a key)).length) ((l ++ numN (comL a key)).map (Value.int .u8))) := Lib.hid (own_mono ho0 G2.out.size); have hb0 : Below w2.heap.size w2 w3 := below_own hg0 (Nat.le_refl _) (fun k hk => by cases hk); have G3 : Hid (Below (w.alloc (.cells #[.slice ko key.length kc, .int .u64 ((s : Nat) : Int), .bool true, .slice vo val.length vc] 46)).heap.size (w.alloc (.cells #[.slice ko key.length kc, .int .u64 ((s : Nat) : Int), .bool true, .slice vo val.length vc] 46)) w3) := Lib.hid (bel_call G2.out hb0); clear ho0 hg0 hb0 e0 e1 e2 e3; have e0 : w3.cell? ⟨w.heap.size, 0, none⟩ = some (.slice ko key.length kc) := (G3.out.cell (p := ⟨w.heap.size, 0, none⟩) (by simp)).trans (by go_simp); have e1 : w3.cell? ⟨w.heap.size, 1, none⟩ = some (.int .u64 ((s : Nat) : Int)) := (G3.out.cell (p := ⟨w.heap.size, 1, none⟩) (by simp)).trans (by go_simp); have e2 : w3.cell? ⟨w.heap.size, 2, none⟩ = some (.bool true) := (G3.out.cell (p := ⟨w.heap.size, 2, none⟩) (by simp)).trans (by go_simp); have e3 : w3.cell? ⟨w.heap.size, 3, none⟩ = some (.slice vo val.length vc) := (G3.out.cell (p := ⟨w.heap.size, 3, none⟩) (by simp)).trans (by go_simp); have ze0 : w.heap.size < w3.heap.size := Nat.lt_of_lt_of_le (by simp) G3.out.size; obtain ⟨xo0, xc0, rfl, -, -, -, -⟩ := own_form O0.out)
    refine (number_any (key.length - comL a key) _ (by omega)).mono ?_
    unfold NumPost
    rintro e w4 ⟨vb, rfl, ho, hb⟩
    have Nvb := Lib.hid ho.isB
    have G4 : Hid (Below (w.alloc (.cells #[.slice ko key.length kc, .int .u64 ((s : Nat) : Int), .bool true, .slice vo val.length vc] 46)).heap.size (w.alloc (.cells #[.slice ko key.length kc, .int .u64 ((s : Nat) : Int), .bool true, .slice vo val.length vc] 46)) w4) := Lib.hid (bel_call G3.out hb)
    have HBS : Hid (Below w3.heap.size w3 w4) := Lib.hid hb
    obtain ⟨vbo, vbc, rfl, -, -, -, -⟩ := ho.form
    clear ho hb e0 e1 e2 e3
    have e0 : w4.cell? ⟨w.heap.size, 0, none⟩ = some (.slice ko key.length kc) := (G4.out.cell (p := ⟨w.heap.size, 0, none⟩) (by simp)).trans (by go_simp)
    have e1 : w4.cell? ⟨w.heap.size, 1, none⟩ = some (.int .u64 ((s : Nat) : Int)) := (G4.out.cell (p := ⟨w.heap.size, 1, none⟩) (by simp)).trans (by go_simp)
    have e2 : w4.cell? ⟨w.heap.size, 2, none⟩ = some (.bool true) := (G4.out.cell (p := ⟨w.heap.size, 2, none⟩) (by simp)).trans (by go_simp)
    have e3 : w4.cell? ⟨w.heap.size, 3, none⟩ = some (.slice vo val.length vc) := (G4.out.cell (p := ⟨w.heap.size, 3, none⟩) (by simp)).trans (by go_simp)
    have zzvb : w.heap.size < w4.heap.size := Nat.lt_of_lt_of_le (by simp) G4.out.size
    replace O0 := Lib.hid (own_below O0.out HBS.out)
    go_wp2_with (at_builtin; refine wpList_append_bytes (w := w4) (base := (w.alloc (.cells #[.slice ko key.length kc, .int .u64 ((s : Nat) : Int), .bool true, .slice vo val.length vc] 46)).heap.size) (.tmp 38) (.tmp 45) _ rfl rfl i0 _ Try.underlying25 HI.out HZ0.out HZ1.out HZ2.out rfl _ (l ++ numN (comL a key)) (numN (key.length - (comL a key))) rfl rfl O0.out Nvb.out (by have := HSZ.out; simp only [List.length_append, List.length_singleton, List.length_drop] at this ⊢; omega) G4.out.size ?_; intro x1 w5 ho1 hb1; have O1 : Hid (w5.ownsRow (w.alloc (.cells #[.slice ko key.length kc, .int .u64 ((s : Nat) : Int), .bool true, .slice vo val.length vc] 46)).heap.size 5 1 x1 (l.length + (numN (comL a key)).length + (numN (key.length - (comL a key))).length) ((l ++ numN (comL a key) ++ numN (key.length - (comL a key))).map (Value.int .u8))) := Lib.hid (by first | exact ho1 | (rw [List.length_drop] at ho1; exact ho1)); have G5 : Hid (Below (w.alloc (.cells #[.slice ko key.length kc, .int .u64 ((s : Nat) : Int), .bool true, .slice vo val.length vc] 46)).heap.size (w.alloc (.cells #[.slice ko key.length kc, .int .u64 ((s : Nat) : Int), .bool true, .slice vo val.length vc] 46)) w5) := Lib.hid (G4.out.trans hb1); clear ho1 hb1 e0 e1 e2 e3; have e0 : w5.cell? ⟨w.heap.size, 0, none⟩ = some (.slice ko key.length kc) := (G5.out.cell (p := ⟨w.heap.size, 0, none⟩) (by simp)).trans (by go_simp); have e1 : w5.cell? ⟨w.heap.size, 1, none⟩ = some (.int .u64 ((s : Nat) : Int)) := (G5.out.cell (p := ⟨w.heap.size, 1, none⟩) (by simp)).trans (by go_simp); have e2 : w5.cell? ⟨w.heap.size, 2, none⟩ = some (.bool true) := (G5.out.cell (p := ⟨w.heap.size, 2, none⟩) (by simp)).trans (by go_simp); have e3 : w5.cell? ⟨w.heap.size, 3, none⟩ = some (.slice vo val.length vc) := (G5.out.cell (p := ⟨w.heap.size, 3, none⟩) (by simp)).trans (by go_simp); have ze1 : w.heap.size < w5.heap.size := Nat.lt_of_lt_of_le (by simp) G5.out.size; obtain ⟨xo1, xc1, rfl, -, -, -, -⟩ := own_form O1.out)
    refine (number_any s _ hs).mono ?_
    unfold NumPost
    rintro e w6 ⟨vd, rfl, ho, hb⟩
    have Nvd := Lib.hid ho.isB
    have G6 : Hid (Below (w.alloc (.cells #[.slice ko key.length kc, .int .u64 ((s : Nat) : Int), .bool true, .slice vo val.length vc] 46)).heap.size (w.alloc (.cells #[.slice ko key.length kc, .int .u64 ((s : Nat) : Int), .bool true, .slice vo val.length vc] 46)) w6) := Lib.hid (bel_call G5.out hb)
    have HBS : Hid (Below w5.heap.size w5 w6) := Lib.hid hb
    obtain ⟨vdo, vdc, rfl, -, -, -, -⟩ := ho.form
    clear ho hb e0 e1 e2 e3
    have e0 : w6.cell? ⟨w.heap.size, 0, none⟩ = some (.slice ko key.length kc) := (G6.out.cell (p := ⟨w.heap.size, 0, none⟩) (by simp)).trans (by go_simp)
    have e1 : w6.cell? ⟨w.heap.size, 1, none⟩ = some (.int .u64 ((s : Nat) : Int)) := (G6.out.cell (p := ⟨w.heap.size, 1, none⟩) (by simp)).trans (by go_simp)
    have e2 : w6.cell? ⟨w.heap.size, 2, none⟩ = some (.bool true) := (G6.out.cell (p := ⟨w.heap.size, 2, none⟩) (by simp)).trans (by go_simp)
    have e3 : w6.cell? ⟨w.heap.size, 3, none⟩ = some (.slice vo val.length vc) := (G6.out.cell (p := ⟨w.heap.size, 3, none⟩) (by simp)).trans (by go_simp)
    have zzvd : w.heap.size < w6.heap.size := Nat.lt_of_lt_of_le (by simp) G6.out.size
    replace O1 := Lib.hid (own_below O1.out HBS.out)
    go_wp2_with first
      | (at_builtin; refine wpList_append_bytes (w := w6) (base := (w.alloc (.cells #[.slice ko key.length kc, .int .u64 ((s : Nat) : Int), .bool true, .slice vo val.length vc] 46)).heap.size) (.tmp 47) (.tmp 50) _ rfl rfl i0 _ Try.underlying25 HI.out HZ0.out HZ1.out HZ2.out rfl _ (l ++ numN (comL a key) ++ numN (key.length - (comL a key))) (numN s) rfl rfl O1.out Nvd.out (by have := HSZ.out; simp only [List.length_append, List.length_singleton, List.length_drop] at this ⊢; omega) G6.out.size ?_; intro x2 w7 ho2 hb2; have O2 : Hid (w7.ownsRow (w.alloc (.cells #[.slice ko key.length kc, .int .u64 ((s : Nat) : Int), .bool true, .slice vo val.length vc] 46)).heap.size 5 1 x2 (l.length + (numN (comL a key)).length + (numN (key.length - (comL a key))).length + (numN s).length) ((l ++ numN (comL a key) ++ numN (key.length - (comL a key)) ++ numN s).map (Value.int .u8))) := Lib.hid (by first | exact ho2 | (rw [List.length_drop] at ho2; exact ho2)); have G7 : Hid (Below (w.alloc (.cells #[.slice ko key.length kc, .int .u64 ((s : Nat) : Int), .bool true, .slice vo val.length vc] 46)).heap.size (w.alloc (.cells #[.slice ko key.length kc, .int .u64 ((s : Nat) : Int), .bool true, .slice vo val.length vc] 46)) w7) := Lib.hid (G6.out.trans hb2); clear ho2 hb2 e0 e1 e2 e3; have e0 : w7.cell? ⟨w.heap.size, 0, none⟩ = some (.slice ko key.length kc) := (G7.out.cell (p := ⟨w.heap.size, 0, none⟩) (by simp)).trans (by go_simp); have e1 : w7.cell? ⟨w.heap.size, 1, none⟩ = some (.int .u64 ((s : Nat) : Int)) := (G7.out.cell (p := ⟨w.heap.size, 1, none⟩) (by simp)).trans (by go_simp); have e2 : w7.cell? ⟨w.heap.size, 2, none⟩ = some (.bool true) := (G7.out.cell (p := ⟨w.heap.size, 2, none⟩) (by simp)).trans (by go_simp); have e3 : w7.cell? ⟨w.heap.size, 3, none⟩ = some (.slice vo val.length vc) := (G7.out.cell (p := ⟨w.heap.size, 3, none⟩) (by simp)).trans (by go_simp); have ze2 : w.heap.size < w7.heap.size := Nat.lt_of_lt_of_le (by simp) G7.out.size; obtain ⟨xo2, xc2, rfl, -, -, -, -⟩ := own_form O2.out)
      | (at_builtin; refine wpList_append_one (w := w7) (base := (w.alloc (.cells #[.slice ko key.length kc, .int .u64 ((s : Nat) : Int), .bool true, .slice vo val.length vc] 46)).heap.size) (.tmp 51) (.tmp 53) _ rfl rfl i0 _ 1 Try.underlying25 HI.out HZ0.out HZ1.out HZ2.out rfl (.int .u8 1) rfl rfl O2.out rfl (by have := HSZ.out; simp only [List.length_append, List.length_singleton, List.length_drop] at this ⊢; omega) (by have := HSZ.out; simp only [List.length_append, List.length_singleton, List.length_drop] at this ⊢; omega) G7.out.size ?_; intro x3 w8 ho3 hb3; have O3 : Hid (w8.ownsRow (w.alloc (.cells #[.slice ko key.length kc, .int .u64 ((s : Nat) : Int), .bool true, .slice vo val.length vc] 46)).heap.size 5 1 x3 (l.length + (numN (comL a key)).length + (numN (key.length - (comL a key))).length + (numN s).length + 1) ((l ++ numN (comL a key) ++ numN (key.length - (comL a key)) ++ numN s ++ [(1 : Int)]).map (Value.int .u8))) := Lib.hid (by rw [List.map_append]; exact ho3); have G8 : Hid (Below (w.alloc (.cells #[.slice ko key.length kc, .int .u64 ((s : Nat) : Int), .bool true, .slice vo val.length vc] 46)).heap.size (w.alloc (.cells #[.slice ko key.length kc, .int .u64 ((s : Nat) : Int), .bool true, .slice vo val.length vc] 46)) w8) := Lib.hid (G7.out.trans hb3); clear ho3 hb3 e0 e1 e2 e3; have e0 : w8.cell? ⟨w.heap.size, 0, none⟩ = some (.slice ko key.length kc) := (G8.out.cell (p := ⟨w.heap.size, 0, none⟩) (by simp)).trans (by go_simp); have e1 : w8.cell? ⟨w.heap.size, 1, none⟩ = some (.int .u64 ((s : Nat) : Int)) := (G8.out.cell (p := ⟨w.heap.size, 1, none⟩) (by simp)).trans (by go_simp); have e2 : w8.cell? ⟨w.heap.size, 2, none⟩ = some (.bool true) := (G8.out.cell (p := ⟨w.heap.size, 2, none⟩) (by simp)).trans (by go_simp); have e3 : w8.cell? ⟨w.heap.size, 3, none⟩ = some (.slice vo val.length vc) := (G8.out.cell (p := ⟨w.heap.size, 3, none⟩) (by simp)).trans (by go_simp); have ze8 : w.heap.size < w8.heap.size := Nat.lt_of_lt_of_le (by simp) G8.out.size; obtain ⟨xo3, xc3, rfl, -, -, -, -⟩ := own_form O3.out)
    refine (number_any val.length _ (by omega)).mono ?_
    unfold NumPost
    rintro e w9 ⟨vf, rfl, ho, hb⟩
    have Nvf := Lib.hid ho.isB
    have G9 : Hid (Below (w.alloc (.cells #[.slice ko key.length kc, .int .u64 ((s : Nat) : Int), .bool true, .slice vo val.length vc] 46)).heap.size (w.alloc (.cells #[.slice ko key.length kc, .int .u64 ((s : Nat) : Int), .bool true, .slice vo val.length vc] 46)) w9) := Lib.hid (bel_call G8.out hb)
    have HBS : Hid (Below w8.heap.size w8 w9) := Lib.hid hb
    obtain ⟨vfo, vfc, rfl, -, -, -, -⟩ := ho.form
    clear ho hb e0 e1 e2 e3
    have e0 : w9.cell? ⟨w.heap.size, 0, none⟩ = some (.slice ko key.length kc) := (G9.out.cell (p := ⟨w.heap.size, 0, none⟩) (by simp)).trans (by go_simp)
    have e1 : w9.cell? ⟨w.heap.size, 1, none⟩ = some (.int .u64 ((s : Nat) : Int)) := (G9.out.cell (p := ⟨w.heap.size, 1, none⟩) (by simp)).trans (by go_simp)
    have e2 : w9.cell? ⟨w.heap.size, 2, none⟩ = some (.bool true) := (G9.out.cell (p := ⟨w.heap.size, 2, none⟩) (by simp)).trans (by go_simp)
    have e3 : w9.cell? ⟨w.heap.size, 3, none⟩ = some (.slice vo val.length vc) := (G9.out.cell (p := ⟨w.heap.size, 3, none⟩) (by simp)).trans (by go_simp)
    have zzvf : w.heap.size < w9.heap.size := Nat.lt_of_lt_of_le (by simp) G9.out.size
    replace O3 := Lib.hid (own_below O3.out HBS.out)
    go_wp2_with (at_builtin; refine wpList_append_bytes (w := w9) (base := (w.alloc (.cells #[.slice ko key.length kc, .int .u64 ((s : Nat) : Int), .bool true, .slice vo val.length vc] 46)).heap.size) (.tmp 55) (.tmp 60) _ rfl rfl i0 _ Try.underlying25 HI.out HZ0.out HZ1.out HZ2.out rfl _ (l ++ numN (comL a key) ++ numN (key.length - (comL a key)) ++ numN s ++ [(1 : Int)]) (numN val.length) rfl rfl O3.out Nvf.out (by have := HSZ.out; simp only [List.length_append, List.length_singleton, List.length_drop] at this ⊢; omega) G9.out.size ?_; intro x4 w10 ho4 hb4; have O4 : Hid (w10.ownsRow (w.alloc (.cells #[.slice ko key.length kc, .int .u64 ((s : Nat) : Int), .bool true, .slice vo val.length vc] 46)).heap.size 5 1 x4 (l.length + (numN (comL a key)).length + (numN (key.length - (comL a key))).length + (numN s).length + 1 + (numN val.length).length) ((l ++ numN (comL a key) ++ numN (key.length - (comL a key)) ++ numN s ++ [(1 : Int)] ++ numN val.length).map (Value.int .u8))) := Lib.hid (by first | exact ho4 | (rw [List.length_drop] at ho4; exact ho4)); have G10 : Hid (Below (w.alloc (.cells #[.slice ko key.length kc, .int .u64 ((s : Nat) : Int), .bool true, .slice vo val.length vc] 46)).heap.size (w.alloc (.cells #[.slice ko key.length kc, .int .u64 ((s : Nat) : Int), .bool true, .slice vo val.length vc] 46)) w10) := Lib.hid (G9.out.trans hb4); clear ho4 hb4 e0 e1 e2 e3; have e0 : w10.cell? ⟨w.heap.size, 0, none⟩ = some (.slice ko key.length kc) := (G10.out.cell (p := ⟨w.heap.size, 0, none⟩) (by simp)).trans (by go_simp); have e1 : w10.cell? ⟨w.heap.size, 1, none⟩ = some (.int .u64 ((s : Nat) : Int)) := (G10.out.cell (p := ⟨w.heap.size, 1, none⟩) (by simp)).trans (by go_simp); have e2 : w10.cell? ⟨w.heap.size, 2, none⟩ = some (.bool true) := (G10.out.cell (p := ⟨w.heap.size, 2, none⟩) (by simp)).trans (by go_simp); have e3 : w10.cell? ⟨w.heap.size, 3, none⟩ = some (.slice vo val.length vc) := (G10.out.cell (p := ⟨w.heap.size, 3, none⟩) (by simp)).trans (by go_simp); have ze4 : w.heap.size < w10.heap.size := Nat.lt_of_lt_of_le (by simp) G10.out.size; obtain ⟨xo4, xc4, rfl, -, -, -, -⟩ := own_form O4.out)
    have O4d := Lib.hid (own_below O4.out (Below.refl _ w10).drew)
    have G10d := Lib.hid G10.out.drew
    by_cases hkc : kc = comL a key
    · have hkc2 : kc = comL a key := hkc
      go_region_held3 (fun w' => w'.cell? ⟨w.heap.size, 0, none⟩ = some (.slice ko key.length kc) ∧ w'.cell? ⟨w.heap.size, 3, none⟩ = some (.slice vo val.length vc)) (first | exact ⟨by assumption, by assumption⟩ | go_keep) (first
        | (refine step_of_list rfl ?_; refine wpList_append_bytes (w := w10.drew) (base := (w.alloc (.cells #[.slice ko key.length kc, .int .u64 ((s : Nat) : Int), .bool true, .slice vo val.length vc] 46)).heap.size) (.tmp 62) (.tmp 66) _ rfl rfl i0 _ Try.underlying25 HI.out HZ0.out HZ1.out HZ2.out rfl _ (l ++ numN (comL a key) ++ numN (key.length - (comL a key)) ++ numN s ++ [(1 : Int)] ++ numN val.length) (key.drop (comL a key)) rfl rfl O4d.out (isB_suf (HK.out.below G10d.out) (by omega) (by omega) (by omega) (.inl ⟨hkc, rfl⟩)) (by have := HSZ.out; simp only [List.length_append, List.length_singleton, List.length_drop] at this ⊢; omega) G10d.out.size ?_; intro x5 w11 ho5 hb5; refine list_done ?_; have O5 : Hid (w11.ownsRow (w.alloc (.cells #[.slice ko key.length kc, .int .u64 ((s : Nat) : Int), .bool true, .slice vo val.length vc] 46)).heap.size 5 1 x5 (l.length + (numN (comL a key)).length + (numN (key.length - (comL a key))).length + (numN s).length + 1 + (numN val.length).length + (key.length - (comL a key))) ((l ++ numN (comL a key) ++ numN (key.length - (comL a key)) ++ numN s ++ [(1 : Int)] ++ numN val.length ++ key.drop (comL a key)).map (Value.int .u8))) := Lib.hid (by first | exact ho5 | (rw [List.length_drop] at ho5; exact ho5)); have G11 : Hid (Below (w.alloc (.cells #[.slice ko key.length kc, .int .u64 ((s : Nat) : Int), .bool true, .slice vo val.length vc] 46)).heap.size (w.alloc (.cells #[.slice ko key.length kc, .int .u64 ((s : Nat) : Int), .bool true, .slice vo val.length vc] 46)) w11) := Lib.hid (G10d.out.trans hb5); clear ho5 hb5; have g0 : w11.cell? ⟨w.heap.size, 0, none⟩ = some (.slice ko key.length kc) := (G11.out.cell (p := ⟨w.heap.size, 0, none⟩) (by simp)).trans (by go_simp); have g1 : w11.cell? ⟨w.heap.size, 1, none⟩ = some (.int .u64 ((s : Nat) : Int)) := (G11.out.cell (p := ⟨w.heap.size, 1, none⟩) (by simp)).trans (by go_simp); have g2 : w11.cell? ⟨w.heap.size, 2, none⟩ = some (.bool true) := (G11.out.cell (p := ⟨w.heap.size, 2, none⟩) (by simp)).trans (by go_simp); have g3 : w11.cell? ⟨w.heap.size, 3, none⟩ = some (.slice vo val.length vc) := (G11.out.cell (p := ⟨w.heap.size, 3, none⟩) (by simp)).trans (by go_simp); have ze5 : w.heap.size < w11.heap.size := Nat.lt_of_lt_of_le (by simp) G11.out.size; obtain ⟨xo5, xc5, rfl, -, -, -, -⟩ := own_form O5.out)
        | (refine step_of_list rfl ?_; refine wpList_append_bytes (w := w11) (base := (w.alloc (.cells #[.slice ko key.length kc, .int .u64 ((s : Nat) : Int), .bool true, .slice vo val.length vc] 46)).heap.size) (.tmp 67) (.tmp 69) _ rfl rfl i0 _ Try.underlying25 HI.out HZ0.out HZ1.out HZ2.out rfl _ (l ++ numN (comL a key) ++ numN (key.length - (comL a key)) ++ numN s ++ [(1 : Int)] ++ numN val.length ++ key.drop (comL a key)) (val) rfl rfl O5.out (HV.out.below G11.out) (by have := HSZ.out; simp only [List.length_append, List.length_singleton, List.length_drop] at this ⊢; omega) G11.out.size ?_; intro x6 w12 ho6 hb6; refine list_done ?_; have O6 : Hid (w12.ownsRow (w.alloc (.cells #[.slice ko key.length kc, .int .u64 ((s : Nat) : Int), .bool true, .slice vo val.length vc] 46)).heap.size 5 1 x6 (l.length + (numN (comL a key)).length + (numN (key.length - (comL a key))).length + (numN s).length + 1 + (numN val.length).length + (key.length - (comL a key)) + val.length) ((l ++ numN (comL a key) ++ numN (key.length - (comL a key)) ++ numN s ++ [(1 : Int)] ++ numN val.length ++ key.drop (comL a key) ++ val).map (Value.int .u8))) := Lib.hid (by first | exact ho6 | (rw [List.length_drop] at ho6; exact ho6)); have G12 : Hid (Below (w.alloc (.cells #[.slice ko key.length kc, .int .u64 ((s : Nat) : Int), .bool true, .slice vo val.length vc] 46)).heap.size (w.alloc (.cells #[.slice ko key.length kc, .int .u64 ((s : Nat) : Int), .bool true, .slice vo val.length vc] 46)) w12) := Lib.hid (G11.out.trans hb6); clear ho6 hb6; have g0 : w12.cell? ⟨w.heap.size, 0, none⟩ = some (.slice ko key.length kc) := (G12.out.cell (p := ⟨w.heap.size, 0, none⟩) (by simp)).trans (by go_simp); have g1 : w12.cell? ⟨w.heap.size, 1, none⟩ = some (.int .u64 ((s : Nat) : Int)) := (G12.out.cell (p := ⟨w.heap.size, 1, none⟩) (by simp)).trans (by go_simp); have g2 : w12.cell? ⟨w.heap.size, 2, none⟩ = some (.bool true) := (G12.out.cell (p := ⟨w.heap.size, 2, none⟩) (by simp)).trans (by go_simp); have g3 : w12.cell? ⟨w.heap.size, 3, none⟩ = some (.slice vo val.length vc) := (G12.out.cell (p := ⟨w.heap.size, 3, none⟩) (by simp)).trans (by go_simp); have ze6 : w.heap.size < w12.heap.size := Nat.lt_of_lt_of_le (by simp) G12.out.size; obtain ⟨xo6, xc6, rfl, -, -, -, -⟩ := own_form O6.out))
      all_goals
        go_wp2_with fail
        go_ret
        refine ⟨_, rfl, ?_, bel_call (bel_alloc (Below.refl _ w) _) G12.out⟩
        rw [HLAY.out]
        have h9 := own_mono O6.out (show w.heap.size ≤ (w.alloc (.cells #[.slice ko key.length kc, .int .u64 ((s : Nat) : Int), .bool true, .slice vo val.length vc] 46)).heap.size by simp)
        exact OwnS.of_own h9 (HRNG.out)
    · have hkc2 : ¬ kc = comL a key := hkc
      go_region_held3 (fun w' => w'.cell? ⟨w.heap.size, 0, none⟩ = some (.slice ko key.length kc) ∧ w'.cell? ⟨w.heap.size, 3, none⟩ = some (.slice vo val.length vc)) (first | exact ⟨by assumption, by assumption⟩ | go_keep) (first
        | (refine step_of_list rfl ?_; refine wpList_append_bytes (w := w10.drew) (base := (w.alloc (.cells #[.slice ko key.length kc, .int .u64 ((s : Nat) : Int), .bool true, .slice vo val.length vc] 46)).heap.size) (.tmp 62) (.tmp 66) _ rfl rfl i0 _ Try.underlying25 HI.out HZ0.out HZ1.out HZ2.out rfl _ (l ++ numN (comL a key) ++ numN (key.length - (comL a key)) ++ numN s ++ [(1 : Int)] ++ numN val.length) (key.drop (comL a key)) rfl rfl O4d.out (isB_suf (HK.out.below G10d.out) (by omega) (by omega) (by omega) (.inr (by simp))) (by have := HSZ.out; simp only [List.length_append, List.length_singleton, List.length_drop] at this ⊢; omega) G10d.out.size ?_; intro x5 w11 ho5 hb5; refine list_done ?_; have O5 : Hid (w11.ownsRow (w.alloc (.cells #[.slice ko key.length kc, .int .u64 ((s : Nat) : Int), .bool true, .slice vo val.length vc] 46)).heap.size 5 1 x5 (l.length + (numN (comL a key)).length + (numN (key.length - (comL a key))).length + (numN s).length + 1 + (numN val.length).length + (key.length - (comL a key))) ((l ++ numN (comL a key) ++ numN (key.length - (comL a key)) ++ numN s ++ [(1 : Int)] ++ numN val.length ++ key.drop (comL a key)).map (Value.int .u8))) := Lib.hid (by first | exact ho5 | (rw [List.length_drop] at ho5; exact ho5)); have G11 : Hid (Below (w.alloc (.cells #[.slice ko key.length kc, .int .u64 ((s : Nat) : Int), .bool true, .slice vo val.length vc] 46)).heap.size (w.alloc (.cells #[.slice ko key.length kc, .int .u64 ((s : Nat) : Int), .bool true, .slice vo val.length vc] 46)) w11) := Lib.hid (G10d.out.trans hb5); clear ho5 hb5; have g0 : w11.cell? ⟨w.heap.size, 0, none⟩ = some (.slice ko key.length kc) := (G11.out.cell (p := ⟨w.heap.size, 0, none⟩) (by simp)).trans (by go_simp); have g1 : w11.cell? ⟨w.heap.size, 1, none⟩ = some (.int .u64 ((s : Nat) : Int)) := (G11.out.cell (p := ⟨w.heap.size, 1, none⟩) (by simp)).trans (by go_simp); have g2 : w11.cell? ⟨w.heap.size, 2, none⟩ = some (.bool true) := (G11.out.cell (p := ⟨w.heap.size, 2, none⟩) (by simp)).trans (by go_simp); have g3 : w11.cell? ⟨w.heap.size, 3, none⟩ = some (.slice vo val.length vc) := (G11.out.cell (p := ⟨w.heap.size, 3, none⟩) (by simp)).trans (by go_simp); have ze5 : w.heap.size < w11.heap.size := Nat.lt_of_lt_of_le (by simp) G11.out.size; obtain ⟨xo5, xc5, rfl, -, -, -, -⟩ := own_form O5.out)
        | (refine step_of_list rfl ?_; refine wpList_append_bytes (w := w11) (base := (w.alloc (.cells #[.slice ko key.length kc, .int .u64 ((s : Nat) : Int), .bool true, .slice vo val.length vc] 46)).heap.size) (.tmp 67) (.tmp 69) _ rfl rfl i0 _ Try.underlying25 HI.out HZ0.out HZ1.out HZ2.out rfl _ (l ++ numN (comL a key) ++ numN (key.length - (comL a key)) ++ numN s ++ [(1 : Int)] ++ numN val.length ++ key.drop (comL a key)) (val) rfl rfl O5.out (HV.out.below G11.out) (by have := HSZ.out; simp only [List.length_append, List.length_singleton, List.length_drop] at this ⊢; omega) G11.out.size ?_; intro x6 w12 ho6 hb6; refine list_done ?_; have O6 : Hid (w12.ownsRow (w.alloc (.cells #[.slice ko key.length kc, .int .u64 ((s : Nat) : Int), .bool true, .slice vo val.length vc] 46)).heap.size 5 1 x6 (l.length + (numN (comL a key)).length + (numN (key.length - (comL a key))).length + (numN s).length + 1 + (numN val.length).length + (key.length - (comL a key)) + val.length) ((l ++ numN (comL a key) ++ numN (key.length - (comL a key)) ++ numN s ++ [(1 : Int)] ++ numN val.length ++ key.drop (comL a key) ++ val).map (Value.int .u8))) := Lib.hid (by first | exact ho6 | (rw [List.length_drop] at ho6; exact ho6)); have G12 : Hid (Below (w.alloc (.cells #[.slice ko key.length kc, .int .u64 ((s : Nat) : Int), .bool true, .slice vo val.length vc] 46)).heap.size (w.alloc (.cells #[.slice ko key.length kc, .int .u64 ((s : Nat) : Int), .bool true, .slice vo val.length vc] 46)) w12) := Lib.hid (G11.out.trans hb6); clear ho6 hb6; have g0 : w12.cell? ⟨w.heap.size, 0, none⟩ = some (.slice ko key.length kc) := (G12.out.cell (p := ⟨w.heap.size, 0, none⟩) (by simp)).trans (by go_simp); have g1 : w12.cell? ⟨w.heap.size, 1, none⟩ = some (.int .u64 ((s : Nat) : Int)) := (G12.out.cell (p := ⟨w.heap.size, 1, none⟩) (by simp)).trans (by go_simp); have g2 : w12.cell? ⟨w.heap.size, 2, none⟩ = some (.bool true) := (G12.out.cell (p := ⟨w.heap.size, 2, none⟩) (by simp)).trans (by go_simp); have g3 : w12.cell? ⟨w.heap.size, 3, none⟩ = some (.slice vo val.length vc) := (G12.out.cell (p := ⟨w.heap.size, 3, none⟩) (by simp)).trans (by go_simp); have ze6 : w.heap.size < w12.heap.size := Nat.lt_of_lt_of_le (by simp) G12.out.size; obtain ⟨xo6, xc6, rfl, -, -, -, -⟩ := own_form O6.out))
      all_goals
        go_wp2_with fail
        go_ret
        refine ⟨_, rfl, ?_, bel_call (bel_alloc (Below.refl _ w) _) G12.out⟩
        rw [HLAY.out]
        have h9 := own_mono O6.out (show w.heap.size ≤ (w.alloc (.cells #[.slice ko key.length kc, .int .u64 ((s : Nat) : Int), .bool true, .slice vo val.length vc] 46)).heap.size by simp)
        exact OwnS.of_own h9 (HRNG.out)

set_option maxRecDepth 100000 in
set_option maxHeartbeats 8000000 in
theorem lay_false (base : Nat) (bo : Option Addr) (av kv vv : Value) (l a key val : List Int) (s : Nat) (w : World) (hbw : OwnS w base 5 (.slice bo l.length l.length) l) (hll : l.length ≤ 1099511627776) (ha : IsB w av a) (hk : IsB w kv key) (hv : IsB w vv val) (hs : s < 18446744073709551616) (hkl : key.length ≤ 256) (hvl : val.length ≤ 65536) :
    Calls Try.prog 63 #[.slice bo l.length l.length, av, .agg #[kv, .int .u64 (s : Int), .bool false, vv]] w (LaidP (l ++ layS a (key, (s : Int), false, val)) w) := by
  obtain ⟨i0, hi0, hz0, hz1, hz2⟩ := info_parts infoU8
  have HI := Lib.hid hi0; have HZ0 := Lib.hid hz0; have HZ1 := Lib.hid hz1; have HZ2 := Lib.hid hz2
  obtain ⟨ao, ac, rfl, -, -, -⟩ := ha.form
  obtain ⟨ko, kc, rfl, -, -, -⟩ := hk.form
  obtain ⟨vo, vc, rfl, -, -, -⟩ := hv.form
  have hN := (comL_le a key).2
  have hN2 := (comL_le a key).1
  have ham := ha.max
  have HSZ : Hid ((l ++ numN (comL a key) ++ numN (key.length - (comL a key)) ++ numN s ++ [(0 : Int)] ++ numN val.length ++ key.drop (comL a key) ++ val).length ≤ 2199023255552) := Lib.hid (by
    have h1 := numN_len10 (n := comL a key) (by omega)
    have h2 := numN_len10 (n := key.length - comL a key) (by omega)
    have h3 := numN_len10 hs
    have h4 := numN_len10 (n := val.length) (by omega)
    simp only [List.length_append, List.length_singleton, List.length_drop]
    omega)
  have HLAY : Hid (l ++ layS a (key, (s : Int), false, val) = l ++ numN (comL a key) ++ numN (key.length - (comL a key)) ++ numN s ++ [(0 : Int)] ++ numN val.length ++ key.drop (comL a key) ++ val) := Lib.hid (by simp [layS])
  have HRNG : Hid (Rng (l ++ numN (comL a key) ++ numN (key.length - (comL a key)) ++ numN s ++ [(0 : Int)] ++ numN val.length ++ key.drop (comL a key) ++ val)) := Lib.hid (((((((hbw.rng.append (numN_rng _)).append (numN_rng _)).append (numN_rng _)).append (Rng.cons (by decide) Rng.nil)).append (numN_rng _)).append (hk.rng.drop _)).append hv.rng)
  have HK : Hid (IsB (w.alloc (.cells #[.slice ko key.length kc, .int .u64 ((s : Nat) : Int), .bool false, .slice vo val.length vc] 46)) (.slice ko key.length kc) key) := Lib.hid (hk.alloc _)
  have HV : Hid (IsB (w.alloc (.cells #[.slice ko key.length kc, .int .u64 ((s : Nat) : Int), .bool false, .slice vo val.length vc] 46)) (.slice vo val.length vc) val) := Lib.hid (hv.alloc _)
  have HA : Hid (IsB (w.alloc (.cells #[.slice ko key.length kc, .int .u64 ((s : Nat) : Int), .bool false, .slice vo val.length vc] 46)) (.slice ao a.length ac) a) := Lib.hid (ha.alloc _)
  have HBW0 : Hid (OwnS (w.alloc (.cells #[.slice ko key.length kc, .int .u64 ((s : Nat) : Int), .bool false, .slice vo val.length vc] 46)) base 5 (.slice bo l.length l.length) l) := Lib.hid (hbw.alloc _)
  have q1 := IntWalk.u64_in ((comL a key : Nat) : Int) (by omega)
  have q2 : (key.length : Int) - ((comL a key : Nat) : Int) = ((key.length - comL a key : Nat) : Int) := by omega
  have q3 := IntWalk.i64_in ((key.length - comL a key : Nat) : Int) (by omega)
  have q4 := IntWalk.u64_in ((key.length - comL a key : Nat) : Int) (by omega)
  have q5 := IntWalk.u64_in ((val.length : Nat) : Int) (by omega)
  have q6 : ((comL a key : Nat) : Int) ≤ key.length := by omega
  have q7 : (0 : Int) ≤ ((comL a key : Nat) : Int) := by omega
  clear hi0 hz0 hz1 hz2 ha hk hv hbw
  go_enter Try.func63, Try.ntmps63
  go_upto_block 0 with fail
  go_cut [7] (fun sv wx => sv = .int .i64 (comL a key) ∧ Below (w.alloc (.cells #[.slice ko key.length kc, .int .u64 ((s : Nat) : Int), .bool false, .slice vo val.length vc] 46)).heap.size (w.alloc (.cells #[.slice ko key.length kc, .int .u64 ((s : Nat) : Int), .bool false, .slice vo val.length vc] 46)) wx)
  case first =>
    go_wp2_with fail
    go_loopw [7] (fun i wr => ∃ n : Nat, n ≤ comL a key ∧ i = .int .i64 n ∧ Hid (Below (w.alloc (.cells #[.slice ko key.length kc, .int .u64 ((s : Nat) : Int), .bool false, .slice vo val.length vc] 46)).heap.size (w.alloc (.cells #[.slice ko key.length kc, .int .u64 ((s : Nat) : Int), .bool false, .slice vo val.length vc] 46)) wr)) (fun i _ => a.length - (intOf i).toNat)
    case atStart => exact ⟨0, Nat.zero_le _, rfl, Below.refl _ _⟩
    case round =>
      obtain ⟨n, hn, rfl, hb⟩ := hrel
      have HB := Lib.hid hb.out
      have HAw := Lib.hid (HA.out.below HB.out)
      have HKw := Lib.hid (HK.out.below HB.out)
      have e0 : wr.cell? ⟨w.heap.size, 0, none⟩ = some (.slice ko key.length kc) := (HB.out.cell (p := ⟨w.heap.size, 0, none⟩) (by simp)).trans (by go_simp)
      have e1 : wr.cell? ⟨w.heap.size, 1, none⟩ = some (.int .u64 ((s : Nat) : Int)) := (HB.out.cell (p := ⟨w.heap.size, 1, none⟩) (by simp)).trans (by go_simp)
      have e2 : wr.cell? ⟨w.heap.size, 2, none⟩ = some (.bool false) := (HB.out.cell (p := ⟨w.heap.size, 2, none⟩) (by simp)).trans (by go_simp)
      have e3 : wr.cell? ⟨w.heap.size, 3, none⟩ = some (.slice vo val.length vc) := (HB.out.cell (p := ⟨w.heap.size, 3, none⟩) (by simp)).trans (by go_simp)
      have zw : w.heap.size < wr.heap.size := Nat.lt_of_lt_of_le (by simp) HB.out.size
      by_cases hlt : n < comL a key
      · obtain ⟨x, hx, hy⟩ := comL_at a key n hlt
        obtain ⟨b1, o1, y1, hao, hb1, hy1, hc1, r1, r2⟩ := HAw.out.at_ (k := n) (by omega)
        obtain ⟨b2, o2, y2, hbo, hb2, hy2, hc2, r3, r4⟩ := HKw.out.at_ (k := n) (by omega)
        subst hao hbo
        have e1' : y1 = x := by have := hy1.out; rw [hx] at this; exact (Option.some.inj this).symm
        have e2' : y2 = x := by have := hy2.out; rw [hy] at this; exact (Option.some.inj this).symm
        subst e1' e2'
        have q1 : (n : Int) < a.length := by omega
        have q2 : (n : Int) < key.length := by omega
        have q3 : (y2 == y2) = true := by simp
        have p9 := IntWalk.i64_in ((n : Int) + 1) (by omega)
        clear hx hy hy1 hy2 hb
        by_cases hml : key.length < a.length
        · have m1 : (key.length : Int) < a.length := by omega
          go_wp2_with fail
          go_quiet (fail)
          go_wp2_with fail
          refine ⟨⟨n + 1, by omega, by go_num, below_drewN HB.out _⟩, ?_⟩
          simp [intOf]
          omega
        · have m1 : ¬ (key.length : Int) < a.length := by omega
          go_wp2_with fail
          go_quiet (fail)
          go_wp2_with fail
          refine ⟨⟨n + 1, by omega, by go_num, below_drewN HB.out _⟩, ?_⟩
          simp [intOf]
          omega
      · have hne : n = comL a key := by omega
        subst hne
        clear hlt hn hb
        by_cases k12 : comL a key < a.length ∧ comL a key < key.length
        · obtain ⟨k1, k2⟩ := k12
          have q1 : ((comL a key : Nat) : Int) < a.length := by omega
          have q2 : ((comL a key : Nat) : Int) < key.length := by omega
          obtain ⟨x, y, hx, hy, hxy⟩ := comL_stop a key k1 k2
          obtain ⟨b1, o1, y1, hao, hb1, hy1, hc1, r1, r2⟩ := HAw.out.at_ (k := comL a key) k1
          obtain ⟨b2, o2, y2, hbo, hb2, hy2, hc2, r3, r4⟩ := HKw.out.at_ (k := comL a key) k2
          subst hao hbo
          have e1' : y1 = x := by have := hy1.out; rw [hx] at this; exact (Option.some.inj this).symm
          have e2' : y2 = y := by have := hy2.out; rw [hy] at this; exact (Option.some.inj this).symm
          subst e1' e2'
          have q3 : (y1 == y2) = false := by simp [hxy]
          clear hx hy hy1 hy2
          by_cases hml : key.length < a.length
          · have m1 : (key.length : Int) < a.length := by omega
            go_wp2_with fail
            go_quiet (fail)
            go_wp2_with fail
            all_goals
              go_meet
              exact ⟨rfl, below_drewN HB.out _⟩
          · have m1 : ¬ (key.length : Int) < a.length := by omega
            go_wp2_with fail
            go_quiet (fail)
            go_wp2_with fail
            all_goals
              go_meet
              exact ⟨rfl, below_drewN HB.out _⟩
        · by_cases hml : key.length < a.length
          · have k2 : ¬ comL a key < key.length := by omega
            have q2 : decide (comL a key < key.length) = false := decide_eq_false k2
            have m1 : (key.length : Int) < a.length := by omega
            clear k12
            go_wp2_with fail
            go_quiet (fail)
            go_wp2_with fail
            all_goals
              go_meet
              exact ⟨rfl, below_drewN HB.out _⟩
          · have k1 : ¬ comL a key < a.length := by omega
            have q1 : decide (comL a key < a.length) = false := decide_eq_false k1
            have m1 : ¬ (key.length : Int) < a.length := by omega
            clear k12
            go_wp2_with fail
            go_quiet (fail)
            go_wp2_with fail
            all_goals
              go_meet
              exact ⟨rfl, below_drewN HB.out _⟩
  case rest =>
    obtain ⟨rfl, hbc⟩ := hcut
    have G1 : Hid (Below (w.alloc (.cells #[.slice ko key.length kc, .int .u64 ((s : Nat) : Int), .bool false, .slice vo val.length vc] 46)).heap.size (w.alloc (.cells #[.slice ko key.length kc, .int .u64 ((s : Nat) : Int), .bool false, .slice vo val.length vc] 46)) wc) := Lib.hid hbc
    have e0 : wc.cell? ⟨w.heap.size, 0, none⟩ = some (.slice ko key.length kc) := (G1.out.cell (p := ⟨w.heap.size, 0, none⟩) (by simp)).trans (by go_simp)
    have e1 : wc.cell? ⟨w.heap.size, 1, none⟩ = some (.int .u64 ((s : Nat) : Int)) := (G1.out.cell (p := ⟨w.heap.size, 1, none⟩) (by simp)).trans (by go_simp)
    have e2 : wc.cell? ⟨w.heap.size, 2, none⟩ = some (.bool false) := (G1.out.cell (p := ⟨w.heap.size, 2, none⟩) (by simp)).trans (by go_simp)
    have e3 : wc.cell? ⟨w.heap.size, 3, none⟩ = some (.slice vo val.length vc) := (G1.out.cell (p := ⟨w.heap.size, 3, none⟩) (by simp)).trans (by go_simp)
    have ze1 : w.heap.size < wc.heap.size := Nat.lt_of_lt_of_le (by simp) G1.out.size
    clear hbc
    go_wp2_with fail
    refine (number_any (comL a key) _ (by omega)).mono ?_
    unfold NumPost
    rintro e w2 ⟨va, rfl, ho, hb⟩
    have Nva := Lib.hid ho.isB
    have G2 : Hid (Below (w.alloc (.cells #[.slice ko key.length kc, .int .u64 ((s : Nat) : Int), .bool false, .slice vo val.length vc] 46)).heap.size (w.alloc (.cells #[.slice ko key.length kc, .int .u64 ((s : Nat) : Int), .bool false, .slice vo val.length vc] 46)) w2) := Lib.hid (bel_call G1.out hb)
    have HBS : Hid (Below wc.heap.size wc w2) := Lib.hid hb
    obtain ⟨vao, vac, rfl, -, -, -, -⟩ := ho.form
    clear ho hb e0 e1 e2 e3
    have e0 : w2.cell? ⟨w.heap.size, 0, none⟩ = some (.slice ko key.length kc) := (G2.out.cell (p := ⟨w.heap.size, 0, none⟩) (by simp)).trans (by go_simp)
    have e1 : w2.cell? ⟨w.heap.size, 1, none⟩ = some (.int .u64 ((s : Nat) : Int)) := (G2.out.cell (p := ⟨w.heap.size, 1, none⟩) (by simp)).trans (by go_simp)
    have e2 : w2.cell? ⟨w.heap.size, 2, none⟩ = some (.bool false) := (G2.out.cell (p := ⟨w.heap.size, 2, none⟩) (by simp)).trans (by go_simp)
    have e3 : w2.cell? ⟨w.heap.size, 3, none⟩ = some (.slice vo val.length vc) := (G2.out.cell (p := ⟨w.heap.size, 3, none⟩) (by simp)).trans (by go_simp)
    have zzva : w.heap.size < w2.heap.size := Nat.lt_of_lt_of_le (by simp) G2.out.size
    have HBW : Hid (OwnS w2 base 5 (.slice bo l.length l.length) l) := Lib.hid (HBW0.out.below G2.out)
    go_wp2_with (at_builtin; refine wpList_append_clip (w := w2) (.tmp 33) (.tmp 36) _ rfl rfl i0 Try.underlying25 HI.out HZ0.out HZ1.out HZ2.out _ rfl rfl HBW.out Nva.out (numN_pos _) (by have := HSZ.out; simp only [List.length_append, List.length_singleton, List.length_drop] at this ⊢; omega) ?_; intro x0 w3 ho0 hg0; have O0 : Hid (w3.ownsRow (w.alloc (.cells #[.slice ko key.length kc, .int .u64 ((s : Nat) : Int), .bool false, .slice vo val.length vc] 46)).heap.size 5 1 x0 (l.length + (numN (comL a key)).length) ((l ++ numN (comL a key)).map (Value.int .u8))) := Lib.hid (own_mono ho0 G2.out.size); have hb0 : Below w2.heap.size w2 w3 := below_own hg0 (Nat.le_refl _) (fun k hk => by cases hk); have G3 : Hid (Below (w.alloc (.cells #[.slice ko key.length kc, .int .u64 ((s : Nat) : Int), .bool false, .slice vo val.length vc] 46)).heap.size (w.alloc (.cells #[.slice ko key.length kc, .int .u64 ((s : Nat) : Int), .bool false, .slice vo val.length vc] 46)) w3) := Lib.hid (bel_call G2.out hb0); clear ho0 hg0 hb0 e0 e1 e2 e3; have e0 : w3.cell? ⟨w.heap.size, 0, none⟩ = some (.slice ko key.length kc) := (G3.out.cell (p := ⟨w.heap.size, 0, none⟩) (by simp)).trans (by go_simp); have e1 : w3.cell? ⟨w.heap.size, 1, none⟩ = some (.int .u64 ((s : Nat) : Int)) := (G3.out.cell (p := ⟨w.heap.size, 1, none⟩) (by simp)).trans (by go_simp); have e2 : w3.cell? ⟨w.heap.size, 2, none⟩ = some (.bool false) := (G3.out.cell (p := ⟨w.heap.size, 2, none⟩) (by simp)).trans (by go_simp); have e3 : w3.cell? ⟨w.heap.size, 3, none⟩ = some (.slice vo val.length vc) := (G3.out.cell (p := ⟨w.heap.size, 3, none⟩) (by simp)).trans (by go_simp); have ze0 : w.heap.size < w3.heap.size := Nat.lt_of_lt_of_le (by simp) G3.out.size; obtain ⟨xo0, xc0, rfl, -, -, -, -⟩ := own_form O0.out)
    refine (number_any (key.length - comL a key) _ (by omega)).mono ?_
    unfold NumPost
    rintro e w4 ⟨vb, rfl, ho, hb⟩
    have Nvb := Lib.hid ho.isB
    have G4 : Hid (Below (w.alloc (.cells #[.slice ko key.length kc, .int .u64 ((s : Nat) : Int), .bool false, .slice vo val.length vc] 46)).heap.size (w.alloc (.cells #[.slice ko key.length kc, .int .u64 ((s : Nat) : Int), .bool false, .slice vo val.length vc] 46)) w4) := Lib.hid (bel_call G3.out hb)
    have HBS : Hid (Below w3.heap.size w3 w4) := Lib.hid hb
    obtain ⟨vbo, vbc, rfl, -, -, -, -⟩ := ho.form
    clear ho hb e0 e1 e2 e3
    have e0 : w4.cell? ⟨w.heap.size, 0, none⟩ = some (.slice ko key.length kc) := (G4.out.cell (p := ⟨w.heap.size, 0, none⟩) (by simp)).trans (by go_simp)
    have e1 : w4.cell? ⟨w.heap.size, 1, none⟩ = some (.int .u64 ((s : Nat) : Int)) := (G4.out.cell (p := ⟨w.heap.size, 1, none⟩) (by simp)).trans (by go_simp)
    have e2 : w4.cell? ⟨w.heap.size, 2, none⟩ = some (.bool false) := (G4.out.cell (p := ⟨w.heap.size, 2, none⟩) (by simp)).trans (by go_simp)
    have e3 : w4.cell? ⟨w.heap.size, 3, none⟩ = some (.slice vo val.length vc) := (G4.out.cell (p := ⟨w.heap.size, 3, none⟩) (by simp)).trans (by go_simp)
    have zzvb : w.heap.size < w4.heap.size := Nat.lt_of_lt_of_le (by simp) G4.out.size
    replace O0 := Lib.hid (own_below O0.out HBS.out)
    go_wp2_with (at_builtin; refine wpList_append_bytes (w := w4) (base := (w.alloc (.cells #[.slice ko key.length kc, .int .u64 ((s : Nat) : Int), .bool false, .slice vo val.length vc] 46)).heap.size) (.tmp 38) (.tmp 45) _ rfl rfl i0 _ Try.underlying25 HI.out HZ0.out HZ1.out HZ2.out rfl _ (l ++ numN (comL a key)) (numN (key.length - (comL a key))) rfl rfl O0.out Nvb.out (by have := HSZ.out; simp only [List.length_append, List.length_singleton, List.length_drop] at this ⊢; omega) G4.out.size ?_; intro x1 w5 ho1 hb1; have O1 : Hid (w5.ownsRow (w.alloc (.cells #[.slice ko key.length kc, .int .u64 ((s : Nat) : Int), .bool false, .slice vo val.length vc] 46)).heap.size 5 1 x1 (l.length + (numN (comL a key)).length + (numN (key.length - (comL a key))).length) ((l ++ numN (comL a key) ++ numN (key.length - (comL a key))).map (Value.int .u8))) := Lib.hid (by first | exact ho1 | (rw [List.length_drop] at ho1; exact ho1)); have G5 : Hid (Below (w.alloc (.cells #[.slice ko key.length kc, .int .u64 ((s : Nat) : Int), .bool false, .slice vo val.length vc] 46)).heap.size (w.alloc (.cells #[.slice ko key.length kc, .int .u64 ((s : Nat) : Int), .bool false, .slice vo val.length vc] 46)) w5) := Lib.hid (G4.out.trans hb1); clear ho1 hb1 e0 e1 e2 e3; have e0 : w5.cell? ⟨w.heap.size, 0, none⟩ = some (.slice ko key.length kc) := (G5.out.cell (p := ⟨w.heap.size, 0, none⟩) (by simp)).trans (by go_simp); have e1 : w5.cell? ⟨w.heap.size, 1, none⟩ = some (.int .u64 ((s : Nat) : Int)) := (G5.out.cell (p := ⟨w.heap.size, 1, none⟩) (by simp)).trans (by go_simp); have e2 : w5.cell? ⟨w.heap.size, 2, none⟩ = some (.bool false) := (G5.out.cell (p := ⟨w.heap.size, 2, none⟩) (by simp)).trans (by go_simp); have e3 : w5.cell? ⟨w.heap.size, 3, none⟩ = some (.slice vo val.length vc) := (G5.out.cell (p := ⟨w.heap.size, 3, none⟩) (by simp)).trans (by go_simp); have ze1 : w.heap.size < w5.heap.size := Nat.lt_of_lt_of_le (by simp) G5.out.size; obtain ⟨xo1, xc1, rfl, -, -, -, -⟩ := own_form O1.out)
    refine (number_any s _ hs).mono ?_
    unfold NumPost
    rintro e w6 ⟨vd, rfl, ho, hb⟩
    have Nvd := Lib.hid ho.isB
    have G6 : Hid (Below (w.alloc (.cells #[.slice ko key.length kc, .int .u64 ((s : Nat) : Int), .bool false, .slice vo val.length vc] 46)).heap.size (w.alloc (.cells #[.slice ko key.length kc, .int .u64 ((s : Nat) : Int), .bool false, .slice vo val.length vc] 46)) w6) := Lib.hid (bel_call G5.out hb)
    have HBS : Hid (Below w5.heap.size w5 w6) := Lib.hid hb
    obtain ⟨vdo, vdc, rfl, -, -, -, -⟩ := ho.form
    clear ho hb e0 e1 e2 e3
    have e0 : w6.cell? ⟨w.heap.size, 0, none⟩ = some (.slice ko key.length kc) := (G6.out.cell (p := ⟨w.heap.size, 0, none⟩) (by simp)).trans (by go_simp)
    have e1 : w6.cell? ⟨w.heap.size, 1, none⟩ = some (.int .u64 ((s : Nat) : Int)) := (G6.out.cell (p := ⟨w.heap.size, 1, none⟩) (by simp)).trans (by go_simp)
    have e2 : w6.cell? ⟨w.heap.size, 2, none⟩ = some (.bool false) := (G6.out.cell (p := ⟨w.heap.size, 2, none⟩) (by simp)).trans (by go_simp)
    have e3 : w6.cell? ⟨w.heap.size, 3, none⟩ = some (.slice vo val.length vc) := (G6.out.cell (p := ⟨w.heap.size, 3, none⟩) (by simp)).trans (by go_simp)
    have zzvd : w.heap.size < w6.heap.size := Nat.lt_of_lt_of_le (by simp) G6.out.size
    replace O1 := Lib.hid (own_below O1.out HBS.out)
    go_wp2_with first
      | (at_builtin; refine wpList_append_bytes (w := w6) (base := (w.alloc (.cells #[.slice ko key.length kc, .int .u64 ((s : Nat) : Int), .bool false, .slice vo val.length vc] 46)).heap.size) (.tmp 47) (.tmp 50) _ rfl rfl i0 _ Try.underlying25 HI.out HZ0.out HZ1.out HZ2.out rfl _ (l ++ numN (comL a key) ++ numN (key.length - (comL a key))) (numN s) rfl rfl O1.out Nvd.out (by have := HSZ.out; simp only [List.length_append, List.length_singleton, List.length_drop] at this ⊢; omega) G6.out.size ?_; intro x2 w7 ho2 hb2; have O2 : Hid (w7.ownsRow (w.alloc (.cells #[.slice ko key.length kc, .int .u64 ((s : Nat) : Int), .bool false, .slice vo val.length vc] 46)).heap.size 5 1 x2 (l.length + (numN (comL a key)).length + (numN (key.length - (comL a key))).length + (numN s).length) ((l ++ numN (comL a key) ++ numN (key.length - (comL a key)) ++ numN s).map (Value.int .u8))) := Lib.hid (by first | exact ho2 | (rw [List.length_drop] at ho2; exact ho2)); have G7 : Hid (Below (w.alloc (.cells #[.slice ko key.length kc, .int .u64 ((s : Nat) : Int), .bool false, .slice vo val.length vc] 46)).heap.size (w.alloc (.cells #[.slice ko key.length kc, .int .u64 ((s : Nat) : Int), .bool false, .slice vo val.length vc] 46)) w7) := Lib.hid (G6.out.trans hb2); clear ho2 hb2 e0 e1 e2 e3; have e0 : w7.cell? ⟨w.heap.size, 0, none⟩ = some (.slice ko key.length kc) := (G7.out.cell (p := ⟨w.heap.size, 0, none⟩) (by simp)).trans (by go_simp); have e1 : w7.cell? ⟨w.heap.size, 1, none⟩ = some (.int .u64 ((s : Nat) : Int)) := (G7.out.cell (p := ⟨w.heap.size, 1, none⟩) (by simp)).trans (by go_simp); have e2 : w7.cell? ⟨w.heap.size, 2, none⟩ = some (.bool false) := (G7.out.cell (p := ⟨w.heap.size, 2, none⟩) (by simp)).trans (by go_simp); have e3 : w7.cell? ⟨w.heap.size, 3, none⟩ = some (.slice vo val.length vc) := (G7.out.cell (p := ⟨w.heap.size, 3, none⟩) (by simp)).trans (by go_simp); have ze2 : w.heap.size < w7.heap.size := Nat.lt_of_lt_of_le (by simp) G7.out.size; obtain ⟨xo2, xc2, rfl, -, -, -, -⟩ := own_form O2.out)
      | (at_builtin; refine wpList_append_one (w := w7) (base := (w.alloc (.cells #[.slice ko key.length kc, .int .u64 ((s : Nat) : Int), .bool false, .slice vo val.length vc] 46)).heap.size) (.tmp 51) (.tmp 53) _ rfl rfl i0 _ 1 Try.underlying25 HI.out HZ0.out HZ1.out HZ2.out rfl (.int .u8 0) rfl rfl O2.out rfl (by have := HSZ.out; simp only [List.length_append, List.length_singleton, List.length_drop] at this ⊢; omega) (by have := HSZ.out; simp only [List.length_append, List.length_singleton, List.length_drop] at this ⊢; omega) G7.out.size ?_; intro x3 w8 ho3 hb3; have O3 : Hid (w8.ownsRow (w.alloc (.cells #[.slice ko key.length kc, .int .u64 ((s : Nat) : Int), .bool false, .slice vo val.length vc] 46)).heap.size 5 1 x3 (l.length + (numN (comL a key)).length + (numN (key.length - (comL a key))).length + (numN s).length + 1) ((l ++ numN (comL a key) ++ numN (key.length - (comL a key)) ++ numN s ++ [(0 : Int)]).map (Value.int .u8))) := Lib.hid (by rw [List.map_append]; exact ho3); have G8 : Hid (Below (w.alloc (.cells #[.slice ko key.length kc, .int .u64 ((s : Nat) : Int), .bool false, .slice vo val.length vc] 46)).heap.size (w.alloc (.cells #[.slice ko key.length kc, .int .u64 ((s : Nat) : Int), .bool false, .slice vo val.length vc] 46)) w8) := Lib.hid (G7.out.trans hb3); clear ho3 hb3 e0 e1 e2 e3; have e0 : w8.cell? ⟨w.heap.size, 0, none⟩ = some (.slice ko key.length kc) := (G8.out.cell (p := ⟨w.heap.size, 0, none⟩) (by simp)).trans (by go_simp); have e1 : w8.cell? ⟨w.heap.size, 1, none⟩ = some (.int .u64 ((s : Nat) : Int)) := (G8.out.cell (p := ⟨w.heap.size, 1, none⟩) (by simp)).trans (by go_simp); have e2 : w8.cell? ⟨w.heap.size, 2, none⟩ = some (.bool false) := (G8.out.cell (p := ⟨w.heap.size, 2, none⟩) (by simp)).trans (by go_simp); have e3 : w8.cell? ⟨w.heap.size, 3, none⟩ = some (.slice vo val.length vc) := (G8.out.cell (p := ⟨w.heap.size, 3, none⟩) (by simp)).trans (by go_simp); have ze8 : w.heap.size < w8.heap.size := Nat.lt_of_lt_of_le (by simp) G8.out.size; obtain ⟨xo3, xc3, rfl, -, -, -, -⟩ := own_form O3.out)
    refine (number_any val.length _ (by omega)).mono ?_
    unfold NumPost
    rintro e w9 ⟨vf, rfl, ho, hb⟩
    have Nvf := Lib.hid ho.isB
    have G9 : Hid (Below (w.alloc (.cells #[.slice ko key.length kc, .int .u64 ((s : Nat) : Int), .bool false, .slice vo val.length vc] 46)).heap.size (w.alloc (.cells #[.slice ko key.length kc, .int .u64 ((s : Nat) : Int), .bool false, .slice vo val.length vc] 46)) w9) := Lib.hid (bel_call G8.out hb)
    have HBS : Hid (Below w8.heap.size w8 w9) := Lib.hid hb
    obtain ⟨vfo, vfc, rfl, -, -, -, -⟩ := ho.form
    clear ho hb e0 e1 e2 e3
    have e0 : w9.cell? ⟨w.heap.size, 0, none⟩ = some (.slice ko key.length kc) := (G9.out.cell (p := ⟨w.heap.size, 0, none⟩) (by simp)).trans (by go_simp)
    have e1 : w9.cell? ⟨w.heap.size, 1, none⟩ = some (.int .u64 ((s : Nat) : Int)) := (G9.out.cell (p := ⟨w.heap.size, 1, none⟩) (by simp)).trans (by go_simp)
    have e2 : w9.cell? ⟨w.heap.size, 2, none⟩ = some (.bool false) := (G9.out.cell (p := ⟨w.heap.size, 2, none⟩) (by simp)).trans (by go_simp)
    have e3 : w9.cell? ⟨w.heap.size, 3, none⟩ = some (.slice vo val.length vc) := (G9.out.cell (p := ⟨w.heap.size, 3, none⟩) (by simp)).trans (by go_simp)
    have zzvf : w.heap.size < w9.heap.size := Nat.lt_of_lt_of_le (by simp) G9.out.size
    replace O3 := Lib.hid (own_below O3.out HBS.out)
    go_wp2_with (at_builtin; refine wpList_append_bytes (w := w9) (base := (w.alloc (.cells #[.slice ko key.length kc, .int .u64 ((s : Nat) : Int), .bool false, .slice vo val.length vc] 46)).heap.size) (.tmp 55) (.tmp 60) _ rfl rfl i0 _ Try.underlying25 HI.out HZ0.out HZ1.out HZ2.out rfl _ (l ++ numN (comL a key) ++ numN (key.length - (comL a key)) ++ numN s ++ [(0 : Int)]) (numN val.length) rfl rfl O3.out Nvf.out (by have := HSZ.out; simp only [List.length_append, List.length_singleton, List.length_drop] at this ⊢; omega) G9.out.size ?_; intro x4 w10 ho4 hb4; have O4 : Hid (w10.ownsRow (w.alloc (.cells #[.slice ko key.length kc, .int .u64 ((s : Nat) : Int), .bool false, .slice vo val.length vc] 46)).heap.size 5 1 x4 (l.length + (numN (comL a key)).length + (numN (key.length - (comL a key))).length + (numN s).length + 1 + (numN val.length).length) ((l ++ numN (comL a key) ++ numN (key.length - (comL a key)) ++ numN s ++ [(0 : Int)] ++ numN val.length).map (Value.int .u8))) := Lib.hid (by first | exact ho4 | (rw [List.length_drop] at ho4; exact ho4)); have G10 : Hid (Below (w.alloc (.cells #[.slice ko key.length kc, .int .u64 ((s : Nat) : Int), .bool false, .slice vo val.length vc] 46)).heap.size (w.alloc (.cells #[.slice ko key.length kc, .int .u64 ((s : Nat) : Int), .bool false, .slice vo val.length vc] 46)) w10) := Lib.hid (G9.out.trans hb4); clear ho4 hb4 e0 e1 e2 e3; have e0 : w10.cell? ⟨w.heap.size, 0, none⟩ = some (.slice ko key.length kc) := (G10.out.cell (p := ⟨w.heap.size, 0, none⟩) (by simp)).trans (by go_simp); have e1 : w10.cell? ⟨w.heap.size, 1, none⟩ = some (.int .u64 ((s : Nat) : Int)) := (G10.out.cell (p := ⟨w.heap.size, 1, none⟩) (by simp)).trans (by go_simp); have e2 : w10.cell? ⟨w.heap.size, 2, none⟩ = some (.bool false) := (G10.out.cell (p := ⟨w.heap.size, 2, none⟩) (by simp)).trans (by go_simp); have e3 : w10.cell? ⟨w.heap.size, 3, none⟩ = some (.slice vo val.length vc) := (G10.out.cell (p := ⟨w.heap.size, 3, none⟩) (by simp)).trans (by go_simp); have ze4 : w.heap.size < w10.heap.size := Nat.lt_of_lt_of_le (by simp) G10.out.size; obtain ⟨xo4, xc4, rfl, -, -, -, -⟩ := own_form O4.out)
    have O4d := Lib.hid (own_below O4.out (Below.refl _ w10).drew)
    have G10d := Lib.hid G10.out.drew
    by_cases hkc : kc = comL a key
    · have hkc2 : kc = comL a key := hkc
      go_region_held3 (fun w' => w'.cell? ⟨w.heap.size, 0, none⟩ = some (.slice ko key.length kc) ∧ w'.cell? ⟨w.heap.size, 3, none⟩ = some (.slice vo val.length vc)) (first | exact ⟨by assumption, by assumption⟩ | go_keep) (first
        | (refine step_of_list rfl ?_; refine wpList_append_bytes (w := w10.drew) (base := (w.alloc (.cells #[.slice ko key.length kc, .int .u64 ((s : Nat) : Int), .bool false, .slice vo val.length vc] 46)).heap.size) (.tmp 62) (.tmp 66) _ rfl rfl i0 _ Try.underlying25 HI.out HZ0.out HZ1.out HZ2.out rfl _ (l ++ numN (comL a key) ++ numN (key.length - (comL a key)) ++ numN s ++ [(0 : Int)] ++ numN val.length) (key.drop (comL a key)) rfl rfl O4d.out (isB_suf (HK.out.below G10d.out) (by omega) (by omega) (by omega) (.inl ⟨hkc, rfl⟩)) (by have := HSZ.out; simp only [List.length_append, List.length_singleton, List.length_drop] at this ⊢; omega) G10d.out.size ?_; intro x5 w11 ho5 hb5; refine list_done ?_; have O5 : Hid (w11.ownsRow (w.alloc (.cells #[.slice ko key.length kc, .int .u64 ((s : Nat) : Int), .bool false, .slice vo val.length vc] 46)).heap.size 5 1 x5 (l.length + (numN (comL a key)).length + (numN (key.length - (comL a key))).length + (numN s).length + 1 + (numN val.length).length + (key.length - (comL a key))) ((l ++ numN (comL a key) ++ numN (key.length - (comL a key)) ++ numN s ++ [(0 : Int)] ++ numN val.length ++ key.drop (comL a key)).map (Value.int .u8))) := Lib.hid (by first | exact ho5 | (rw [List.length_drop] at ho5; exact ho5)); have G11 : Hid (Below (w.alloc (.cells #[.slice ko key.length kc, .int .u64 ((s : Nat) : Int), .bool false, .slice vo val.length vc] 46)).heap.size (w.alloc (.cells #[.slice ko key.length kc, .int .u64 ((s : Nat) : Int), .bool false, .slice vo val.length vc] 46)) w11) := Lib.hid (G10d.out.trans hb5); clear ho5 hb5; have g0 : w11.cell? ⟨w.heap.size, 0, none⟩ = some (.slice ko key.length kc) := (G11.out.cell (p := ⟨w.heap.size, 0, none⟩) (by simp)).trans (by go_simp); have g1 : w11.cell? ⟨w.heap.size, 1, none⟩ = some (.int .u64 ((s : Nat) : Int)) := (G11.out.cell (p := ⟨w.heap.size, 1, none⟩) (by simp)).trans (by go_simp); have g2 : w11.cell? ⟨w.heap.size, 2, none⟩ = some (.bool false) := (G11.out.cell (p := ⟨w.heap.size, 2, none⟩) (by simp)).trans (by go_simp); have g3 : w11.cell? ⟨w.heap.size, 3, none⟩ = some (.slice vo val.length vc) := (G11.out.cell (p := ⟨w.heap.size, 3, none⟩) (by simp)).trans (by go_simp); have ze5 : w.heap.size < w11.heap.size := Nat.lt_of_lt_of_le (by simp) G11.out.size; obtain ⟨xo5, xc5, rfl, -, -, -, -⟩ := own_form O5.out)
        | (refine step_of_list rfl ?_; refine wpList_append_bytes (w := w11) (base := (w.alloc (.cells #[.slice ko key.length kc, .int .u64 ((s : Nat) : Int), .bool false, .slice vo val.length vc] 46)).heap.size) (.tmp 67) (.tmp 69) _ rfl rfl i0 _ Try.underlying25 HI.out HZ0.out HZ1.out HZ2.out rfl _ (l ++ numN (comL a key) ++ numN (key.length - (comL a key)) ++ numN s ++ [(0 : Int)] ++ numN val.length ++ key.drop (comL a key)) (val) rfl rfl O5.out (HV.out.below G11.out) (by have := HSZ.out; simp only [List.length_append, List.length_singleton, List.length_drop] at this ⊢; omega) G11.out.size ?_; intro x6 w12 ho6 hb6; refine list_done ?_; have O6 : Hid (w12.ownsRow (w.alloc (.cells #[.slice ko key.length kc, .int .u64 ((s : Nat) : Int), .bool false, .slice vo val.length vc] 46)).heap.size 5 1 x6 (l.length + (numN (comL a key)).length + (numN (key.length - (comL a key))).length + (numN s).length + 1 + (numN val.length).length + (key.length - (comL a key)) + val.length) ((l ++ numN (comL a key) ++ numN (key.length - (comL a key)) ++ numN s ++ [(0 : Int)] ++ numN val.length ++ key.drop (comL a key) ++ val).map (Value.int .u8))) := Lib.hid (by first | exact ho6 | (rw [List.length_drop] at ho6; exact ho6)); have G12 : Hid (Below (w.alloc (.cells #[.slice ko key.length kc, .int .u64 ((s : Nat) : Int), .bool false, .slice vo val.length vc] 46)).heap.size (w.alloc (.cells #[.slice ko key.length kc, .int .u64 ((s : Nat) : Int), .bool false, .slice vo val.length vc] 46)) w12) := Lib.hid (G11.out.trans hb6); clear ho6 hb6; have g0 : w12.cell? ⟨w.heap.size, 0, none⟩ = some (.slice ko key.length kc) := (G12.out.cell (p := ⟨w.heap.size, 0, none⟩) (by simp)).trans (by go_simp); have g1 : w12.cell? ⟨w.heap.size, 1, none⟩ = some (.int .u64 ((s : Nat) : Int)) := (G12.out.cell (p := ⟨w.heap.size, 1, none⟩) (by simp)).trans (by go_simp); have g2 : w12.cell? ⟨w.heap.size, 2, none⟩ = some (.bool false) := (G12.out.cell (p := ⟨w.heap.size, 2, none⟩) (by simp)).trans (by go_simp); have g3 : w12.cell? ⟨w.heap.size, 3, none⟩ = some (.slice vo val.length vc) := (G12.out.cell (p := ⟨w.heap.size, 3, none⟩) (by simp)).trans (by go_simp); have ze6 : w.heap.size < w12.heap.size := Nat.lt_of_lt_of_le (by simp) G12.out.size; obtain ⟨xo6, xc6, rfl, -, -, -, -⟩ := own_form O6.out))
      all_goals
        go_wp2_with fail
        go_ret
        refine ⟨_, rfl, ?_, bel_call (bel_alloc (Below.refl _ w) _) G12.out⟩
        rw [HLAY.out]
        have h9 := own_mono O6.out (show w.heap.size ≤ (w.alloc (.cells #[.slice ko key.length kc, .int .u64 ((s : Nat) : Int), .bool false, .slice vo val.length vc] 46)).heap.size by simp)
        exact OwnS.of_own h9 (HRNG.out)
    · have hkc2 : ¬ kc = comL a key := hkc
      go_region_held3 (fun w' => w'.cell? ⟨w.heap.size, 0, none⟩ = some (.slice ko key.length kc) ∧ w'.cell? ⟨w.heap.size, 3, none⟩ = some (.slice vo val.length vc)) (first | exact ⟨by assumption, by assumption⟩ | go_keep) (first
        | (refine step_of_list rfl ?_; refine wpList_append_bytes (w := w10.drew) (base := (w.alloc (.cells #[.slice ko key.length kc, .int .u64 ((s : Nat) : Int), .bool false, .slice vo val.length vc] 46)).heap.size) (.tmp 62) (.tmp 66) _ rfl rfl i0 _ Try.underlying25 HI.out HZ0.out HZ1.out HZ2.out rfl _ (l ++ numN (comL a key) ++ numN (key.length - (comL a key)) ++ numN s ++ [(0 : Int)] ++ numN val.length) (key.drop (comL a key)) rfl rfl O4d.out (isB_suf (HK.out.below G10d.out) (by omega) (by omega) (by omega) (.inr (by simp))) (by have := HSZ.out; simp only [List.length_append, List.length_singleton, List.length_drop] at this ⊢; omega) G10d.out.size ?_; intro x5 w11 ho5 hb5; refine list_done ?_; have O5 : Hid (w11.ownsRow (w.alloc (.cells #[.slice ko key.length kc, .int .u64 ((s : Nat) : Int), .bool false, .slice vo val.length vc] 46)).heap.size 5 1 x5 (l.length + (numN (comL a key)).length + (numN (key.length - (comL a key))).length + (numN s).length + 1 + (numN val.length).length + (key.length - (comL a key))) ((l ++ numN (comL a key) ++ numN (key.length - (comL a key)) ++ numN s ++ [(0 : Int)] ++ numN val.length ++ key.drop (comL a key)).map (Value.int .u8))) := Lib.hid (by first | exact ho5 | (rw [List.length_drop] at ho5; exact ho5)); have G11 : Hid (Below (w.alloc (.cells #[.slice ko key.length kc, .int .u64 ((s : Nat) : Int), .bool false, .slice vo val.length vc] 46)).heap.size (w.alloc (.cells #[.slice ko key.length kc, .int .u64 ((s : Nat) : Int), .bool false, .slice vo val.length vc] 46)) w11) := Lib.hid (G10d.out.trans hb5); clear ho5 hb5; have g0 : w11.cell? ⟨w.heap.size, 0, none⟩ = some (.slice ko key.length kc) := (G11.out.cell (p := ⟨w.heap.size, 0, none⟩) (by simp)).trans (by go_simp); have g1 : w11.cell? ⟨w.heap.size, 1, none⟩ = some (.int .u64 ((s : Nat) : Int)) := (G11.out.cell (p := ⟨w.heap.size, 1, none⟩) (by simp)).trans (by go_simp); have g2 : w11.cell? ⟨w.heap.size, 2, none⟩ = some (.bool false) := (G11.out.cell (p := ⟨w.heap.size, 2, none⟩) (by simp)).trans (by go_simp); have g3 : w11.cell? ⟨w.heap.size, 3, none⟩ = some (.slice vo val.length vc) := (G11.out.cell (p := ⟨w.heap.size, 3, none⟩) (by simp)).trans (by go_simp); have ze5 : w.heap.size < w11.heap.size := Nat.lt_of_lt_of_le (by simp) G11.out.size; obtain ⟨xo5, xc5, rfl, -, -, -, -⟩ := own_form O5.out)
        | (refine step_of_list rfl ?_; refine wpList_append_bytes (w := w11) (base := (w.alloc (.cells #[.slice ko key.length kc, .int .u64 ((s : Nat) : Int), .bool false, .slice vo val.length vc] 46)).heap.size) (.tmp 67) (.tmp 69) _ rfl rfl i0 _ Try.underlying25 HI.out HZ0.out HZ1.out HZ2.out rfl _ (l ++ numN (comL a key) ++ numN (key.length - (comL a key)) ++ numN s ++ [(0 : Int)] ++ numN val.length ++ key.drop (comL a key)) (val) rfl rfl O5.out (HV.out.below G11.out) (by have := HSZ.out; simp only [List.length_append, List.length_singleton, List.length_drop] at this ⊢; omega) G11.out.size ?_; intro x6 w12 ho6 hb6; refine list_done ?_; have O6 : Hid (w12.ownsRow (w.alloc (.cells #[.slice ko key.length kc, .int .u64 ((s : Nat) : Int), .bool false, .slice vo val.length vc] 46)).heap.size 5 1 x6 (l.length + (numN (comL a key)).length + (numN (key.length - (comL a key))).length + (numN s).length + 1 + (numN val.length).length + (key.length - (comL a key)) + val.length) ((l ++ numN (comL a key) ++ numN (key.length - (comL a key)) ++ numN s ++ [(0 : Int)] ++ numN val.length ++ key.drop (comL a key) ++ val).map (Value.int .u8))) := Lib.hid (by first | exact ho6 | (rw [List.length_drop] at ho6; exact ho6)); have G12 : Hid (Below (w.alloc (.cells #[.slice ko key.length kc, .int .u64 ((s : Nat) : Int), .bool false, .slice vo val.length vc] 46)).heap.size (w.alloc (.cells #[.slice ko key.length kc, .int .u64 ((s : Nat) : Int), .bool false, .slice vo val.length vc] 46)) w12) := Lib.hid (G11.out.trans hb6); clear ho6 hb6; have g0 : w12.cell? ⟨w.heap.size, 0, none⟩ = some (.slice ko key.length kc) := (G12.out.cell (p := ⟨w.heap.size, 0, none⟩) (by simp)).trans (by go_simp); have g1 : w12.cell? ⟨w.heap.size, 1, none⟩ = some (.int .u64 ((s : Nat) : Int)) := (G12.out.cell (p := ⟨w.heap.size, 1, none⟩) (by simp)).trans (by go_simp); have g2 : w12.cell? ⟨w.heap.size, 2, none⟩ = some (.bool false) := (G12.out.cell (p := ⟨w.heap.size, 2, none⟩) (by simp)).trans (by go_simp); have g3 : w12.cell? ⟨w.heap.size, 3, none⟩ = some (.slice vo val.length vc) := (G12.out.cell (p := ⟨w.heap.size, 3, none⟩) (by simp)).trans (by go_simp); have ze6 : w.heap.size < w12.heap.size := Nat.lt_of_lt_of_le (by simp) G12.out.size; obtain ⟨xo6, xc6, rfl, -, -, -, -⟩ := own_form O6.out))
      all_goals
        go_wp2_with fail
        go_ret
        refine ⟨_, rfl, ?_, bel_call (bel_alloc (Below.refl _ w) _) G12.out⟩
        rw [HLAY.out]
        have h9 := own_mono O6.out (show w.heap.size ≤ (w.alloc (.cells #[.slice ko key.length kc, .int .u64 ((s : Nat) : Int), .bool false, .slice vo val.length vc] 46)).heap.size by simp)
        exact OwnS.of_own h9 (HRNG.out)

theorem lay_any (base : Nat) (bo : Option Addr) (av kv vv : Value) (l a : List Int) (x : En) (w : World) (hbw : OwnS w base 5 (.slice bo l.length l.length) l) (hll : l.length ≤ 1099511627776) (ha : IsB w av a) (hk : IsB w kv x.1) (hv : IsB w vv x.2.2.2) (hm : mayB x = true) :
    Calls Try.prog 63 #[.slice bo l.length l.length, av, .agg #[kv, .int .u64 x.2.1, .bool x.2.2.1, vv]] w (LaidP (l ++ layS a x) w) := by
  obtain ⟨key, seq, del, val⟩ := x
  unfold mayB at hm
  simp only [Bool.and_eq_true, decide_eq_true_eq] at hm hk hv ⊢
  obtain ⟨s, rfl⟩ : ∃ s : Nat, seq = (s : Int) := ⟨seq.toNat, by omega⟩
  cases del with
  | true => exact lay_true base bo av kv vv l a key val s w hbw hll ha hk hv (by omega) (by omega) (by omega)
  | false => exact lay_false base bo av kv vv l a key val s w hbw hll ha hk hv (by omega) (by omega) (by omega)
end Ss
end Go.Proofs.Ytmojbamloanleaa
