/- wal: SameOps, Same. -/
import Derived.Test.YtlfelpbcnpjneaaWalOps
import Derived.Test.YtlfelpbcnpjneaaKit
namespace Go.Proofs.Ytlfelpbcnpjneaa
open Go.RowKit
namespace Wal
set_option maxRecDepth 100000 in
set_option maxHeartbeats 2000000 in
theorem sameOps_any (u v : Value) (l : List Opr) (w : World) (hu : IsOps w u l) (hv : IsOps w v l) : Calls Try.prog 22 #[u, v] w (Ret (.bool true) w) := by
  obtain ⟨ao, cap, rfl, hnc, -, -⟩ := hu.form
  obtain ⟨bo, cap2, rfl, hnc2, -, -⟩ := hv.form
  have hm := hu.max
  have HU := Lib.hid hu
  have HV := Lib.hid hv
  clear hu hv
  go_enter Try.func22, Try.ntmps22
  go_wp2_with fail
  go_loopw [5] (fun i wr => ∃ k : Nat, k ≤ l.length ∧ i = .int .i64 k ∧ Hid (Below w.heap.size w wr)) (fun i _ => l.length - (intOf i).toNat)
  case atStart => exact ⟨0, Nat.zero_le _, rfl, Below.refl _ _⟩
  case round =>
    obtain ⟨k, hk, rfl, hbel⟩ := hrel
    by_cases hlt : k < l.length
    · obtain ⟨b, o, x, kv, vv, hao, hbb, hx, a0, a1, a2, hkv, hvv⟩ := IsOps.at3 (IsL.below opR_stays HU.out hbel.out) hlt
      obtain ⟨b', o', x', kv', vv', hbo, hbb', hx', e0, e1, e2, hkv', hvv'⟩ := IsOps.at3 (IsL.below opR_stays HV.out hbel.out) hlt
      have e : x' = x := by have := hx.out; rw [hx'.out] at this; cases this; rfl
      subst e
      subst hao
      subst hbo
      obtain ⟨ko, kcap, rfl, -, -, -⟩ := hkv.out.form
      obtain ⟨vo, vcap, rfl, -, -, -⟩ := hvv.out.form
      obtain ⟨ko', kcap', rfl, -, -, -⟩ := hkv'.out.form
      obtain ⟨vo', vcap', rfl, -, -, -⟩ := hvv'.out.form
      obtain ⟨d, kl, vl⟩ := x'
      simp only at a0 a1 a2 e0 e1 e2 hkv hvv hkv' hvv'
      have f1 := fun nq => (show IsB (wr.drewN nq) _ _ from hkv.out).conv Try.underlying28 Try.underlying5 Try.underlying9
      have f2 := fun nq => (show IsB (wr.drewN nq) _ _ from hvv.out).conv Try.underlying28 Try.underlying5 Try.underlying9
      have f3 := fun nq => (show IsB (wr.drewN nq) _ _ from hkv'.out).conv Try.underlying28 Try.underlying5 Try.underlying9
      have f4 := fun nq => (show IsB (wr.drewN nq) _ _ from hvv'.out).conv Try.underlying28 Try.underlying5 Try.underlying9
      have g1 := hkv.out.conv Try.underlying28 Try.underlying5 Try.underlying9
      have g2 := hvv.out.conv Try.underlying28 Try.underlying5 Try.underlying9
      have g3 := hkv'.out.conv Try.underlying28 Try.underlying5 Try.underlying9
      have g4 := hvv'.out.conv Try.underlying28 Try.underlying5 Try.underlying9
      have hl0 : (k : Int) < l.length := by omega
      have hl1 : 0 ≤ (k : Int) := by omega
      go_wp2_with fail
      go_quiet (fail)
      go_wp2_with fail
      go_roundw
      case rel => exact ⟨k + 1, by omega, by go_num, Lib.hid (below_drewN hbel.out _)⟩
      case measure => simp [intOf]; omega
    · have hkp : k = l.length := by omega
      subst hkp
      go_wp2_with fail
      go_ret
      exact ⟨rfl, hbel.out⟩
/-- a batch: its number, its operations -/
abbrev Bat := Nat × List Opr
def batR (w : World) (cs : List Value) (x : Bat) : Prop := ∃ ov, cs = [.int .u64 x.1, ov] ∧ IsOps w ov x.2 ∧ x.1 < 18446744073709551616
theorem batR_stays : Stays batR := fun w w' cs x hb ⟨ov, h1, h2, h3⟩ => ⟨ov, h1, IsL.below opR_stays h2 hb, h3⟩
abbrev IsBats (w : World) (v : Value) (l : List Bat) : Prop := IsL 2 batR w v l
theorem IsBats.at2 {w : World} {ao : Option Addr} {n cap k : Nat} {l : List Bat} (h : IsBats w (.slice ao n cap) l) (hk : k < l.length) :
    ∃ b o x ov, ao = some ⟨b, o, none⟩ ∧ b < w.heap.size ∧ Hid (l[k]? = some x) ∧ w.cell? ⟨b, o + k * 2, none⟩ = some (.int .u64 x.1) ∧ w.cell? ⟨b, o + k * 2 + 1, none⟩ = some ov ∧ Hid (IsOps w ov x.2) ∧ x.1 < 18446744073709551616 := by
  obtain ⟨b, o, x, cs, h1, h2, h3, h4, h5, ov, rfl, h6, h7⟩ := h.at_ hk
  exact ⟨b, o, x, ov, h1, h2, h3, h5.out 0 _ rfl, h5.out 1 _ rfl, h6, h7⟩
end Wal
end Go.Proofs.Ytlfelpbcnpjneaa
namespace Go.Proofs.Ytlfelpbcnpjneaa
open Go.RowKit
namespace Wal
set_option maxRecDepth 100000 in
set_option maxHeartbeats 2000000 in
theorem same_any (u v : Value) (l : List Bat) (w : World) (hu : IsBats w u l) (hv : IsBats w v l) : Calls Try.prog 10 #[u, v] w (Ret (.bool true) w) := by
  obtain ⟨ao, cap, rfl, hnc, -, -⟩ := hu.form
  obtain ⟨bo, cap2, rfl, hnc2, -, -⟩ := hv.form
  have hm := hu.max
  have HU := Lib.hid hu
  have HV := Lib.hid hv
  clear hu hv
  go_enter Try.func10, Try.ntmps10
  go_wp2_with fail
  go_loopw [5] (fun i wr => ∃ k : Nat, k ≤ l.length ∧ i = .int .i64 k ∧ Hid (Below w.heap.size w wr)) (fun i _ => l.length - (intOf i).toNat)
  case atStart => exact ⟨0, Nat.zero_le _, rfl, Below.refl _ _⟩
  case round =>
    obtain ⟨k, hk, rfl, hbel⟩ := hrel
    by_cases hlt : k < l.length
    · obtain ⟨b, o, x, ov, hao, hbb, hx, a0, a1, hov, hs⟩ := IsBats.at2 (IsL.below batR_stays HU.out hbel.out) hlt
      obtain ⟨b', o', x', ov', hbo, hbb', hx', e0, e1, hov', hs'⟩ := IsBats.at2 (IsL.below batR_stays HV.out hbel.out) hlt
      have e : x' = x := by have := hx.out; rw [hx'.out] at this; cases this; rfl
      subst e
      subst hao
      subst hbo
      obtain ⟨q, ol⟩ := x'
      simp only at a0 a1 e0 e1 hov hov' hs hs'
      obtain ⟨oo, ocap, rfl, -, -, -⟩ := hov.out.form
      obtain ⟨oo', ocap', rfl, -, -, -⟩ := hov'.out.form
      have hl0 : (k : Int) < l.length := by omega
      have hl1 : 0 ≤ (k : Int) := by omega
      go_wp2_with fail
      go_region_held3 (fun w' => w'.cell? ⟨b, o + k * 2 + 1, none⟩ = some (.slice oo ol.length ocap) ∧ w'.cell? ⟨b', o' + k * 2 + 1, none⟩ = some (.slice oo' ol.length ocap')) (first | exact ⟨by assumption, by assumption⟩ | go_keep) ((go_at_call 22; refine (sameOps_any _ _ ol wr.drew (show IsOps wr.drew _ _ from IsL.below opR_stays hov.out ((Below.refl _ wr).drew)) (show IsOps wr.drew _ _ from IsL.below opR_stays hov'.out ((Below.refl _ wr).drew))).mono ?_; rintro e w1 ⟨rfl, g1⟩; have G1 := Lib.hid (bel_call (hbel.out.drew) g1); have A0 : w1.cell? ⟨b, o + k * 2, none⟩ = some (.int .u64 q) := (g1.cell (p := ⟨b, o + k * 2, none⟩) hbb).trans a0; have A1 : w1.cell? ⟨b, o + k * 2 + 1, none⟩ = some (.slice oo ol.length ocap) := (g1.cell (p := ⟨b, o + k * 2 + 1, none⟩) hbb).trans a1; have E0 : w1.cell? ⟨b', o' + k * 2, none⟩ = some (.int .u64 q) := (g1.cell (p := ⟨b', o' + k * 2, none⟩) hbb').trans e0; have E1 : w1.cell? ⟨b', o' + k * 2 + 1, none⟩ = some (.slice oo' ol.length ocap') := (g1.cell (p := ⟨b', o' + k * 2 + 1, none⟩) hbb').trans e1; clear g1))
      all_goals (
        go_wp2_with fail
        go_quiet (fail)
        go_wp2_with fail
        go_roundw
        case rel => exact ⟨k + 1, by omega, by go_num, Lib.hid (below_drewN G1.out _)⟩
        case measure => simp [intOf]; omega)
    · have hkp : k = l.length := by omega
      subst hkp
      go_wp2_with fail
      go_ret
      exact ⟨rfl, hbel.out⟩
end Wal
end Go.Proofs.Ytlfelpbcnpjneaa
