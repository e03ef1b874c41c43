/- memtable: the iterator of Scan (walk). -/
import Derived.Test.YtgkgfghmpimaoaaMt10
import Derived.RangeFuncNested
import Derived.RangeFuncBound
import Derived.RangeFuncCalls
import Derived.RangeFuncLeaves
import Derived.WalkKit
import Derived.OwnWalkIn
import Derived.TacticsInMore
import Derived.LoopNIn
import Derived.LoopIn
set_option linter.unusedVariables false
set_option linter.unusedSimpArgs false
namespace Go.Proofs.Ytgkgfghmpimaoaa
open Go.RowKit
attribute [local go_sem] Oper.semAt_some
namespace Mt
/-- what a round is handed -/
def HandV (w : World) (B : Nat) (v : Value) (x : En) : Prop := ∃ kv vv, v = .agg #[kv, .int .u64 x.2.1, .bool x.2.2.1, vv] ∧ OwnS w B 5 kv x.1 ∧ OwnS w B 5 vv x.2.2.2 ∧ Short x ∧ U64 x.2.1
def leftV (L : List Nd) : Value → Nat
  | .pointer (some a) => L.length - L.findIdx (fun m => m.b == a.block)
  | _ => 0
theorem TabI.findIdx {S : Nat → Prop} {w : World} {tb : Nat} {hs : List Int} {hd : Nd} {L : List Nd} (h : TabI S w tb hs hd L) {k : Nat} {n : Nd} (hk : L[k]? = some n) : L.findIdx (fun m => m.b == n.b) = k := by
  obtain ⟨hlt, rfl⟩ := List.getElem?_eq_some_iff.1 hk
  rw [List.findIdx_eq hlt]
  refine ⟨by simp, fun j hj => ?_⟩
  rw [beq_eq_false_iff_ne]
  intro e
  have h1 := (h.nds _ (List.mem_cons_of_mem _ (List.getElem_mem (show j < L.length by omega)))).obj
  have h2 := (h.nds _ (List.mem_cons_of_mem _ (List.getElem_mem hlt))).obj
  rw [e, h2] at h1
  simp only [Option.some.injEq, Obj.cells.injEq, Array.mk.injEq, List.cons.injEq, Value.slice.injEq, Addr.mk.injEq] at h1
  have hr := (List.pairwise_cons.1 h.rne).2
  exact List.pairwise_iff_getElem.1 hr j k (by omega) hlt hj h1.1.2.2.2.2.1.1.1.symm
theorem drop_snoc {α : Type} {l : List α} {pos k : Nat} {x : α} (hk : pos ≤ k) (h : l[k]? = some x) : (l.drop pos).take (k - pos) ++ [x] = (l.drop pos).take (k + 1 - pos) := by
  have e : (l.drop pos)[k - pos]? = some x := by rw [List.getElem?_drop, show pos + (k - pos) = k by omega]; exact h
  rw [show k + 1 - pos = (k - pos) + 1 by omega, take_snoc e]
set_option maxRecDepth 100000 in
set_option maxHeartbeats 4000000 in
theorem iter_any (S : Nat → Prop) (tb : Nat) (hs : List Int) (hd : Nd) (L : List Nd) (b1 b2 l : Nat) (kv : Value) (key : List Int) (pos : Nat) (J Jx : List En → World → Prop) (W : World)
    (hJT : ∀ pre W, J pre W → TabI S W tb hs hd L) (hJb : ∀ pre W W', J pre W → Below W.heap.size W W' → J pre W')
    (hp : Pos (L.map (·.x)) key 4611686018427387905 pos) (c1 : W.cell? ⟨b1, 0, none⟩ = some (.pointer (some ⟨tb, 0, none⟩))) (c2 : W.cell? ⟨b2, 0, none⟩ = some kv) (hk : IsB W kv key)
    (hY : ∀ pre x Wb W1 v, J pre Wb → Below Wb.heap.size Wb W1 → pre.length < L.length → HandV W1 Wb.heap.size v x → YieldAt Fence.wide 5 Try.prog l #[v] W1 fun e W' =>
      (e = .returned (.bool true) ∧ J (pre ++ [x]) W') ∨ (e = .returned (.bool false) ∧ Jx (pre ++ [x]) W'))
    (h0 : J [] W) :
    CallsIn Fence.wide 6 Try.prog 39 #[.func (.yield l) #[] #[], .pointer (some ⟨b1, 0, none⟩), .pointer (some ⟨b2, 0, none⟩)] W fun e W' => (∃ v, e = .returned v) ∧
      (J ((L.map (·.x)).drop pos) W' ∨ ∃ pre x, pre ++ [x] <+: (L.map (·.x)).drop pos ∧ Jx (pre ++ [x]) W') := by
  obtain ⟨ko, kc, rfl, -, -, -⟩ := hk.form
  have hT := hJT _ _ h0
  have HC := Lib.hid (place_any S tb hs hd L _ key 4611686018427387905 pos W hT hk hp)
  have HPL : Hid (pos ≤ L.length) := Lib.hid (by have := hp.1; rwa [List.length_map] at this)
  have HJT := Lib.hid hJT
  have HJB := Lib.hid hJb
  have HY := Lib.hid hY
  have H0 := Lib.hid h0
  have l1 := World.block_lt_of_cell? W ⟨b1, 0, none⟩ c1
  have l2 := World.block_lt_of_cell? W ⟨b2, 0, none⟩ c2
  clear hk hp hT hJT hJb hY h0
  refine callsIn_wide.2 ?_
  go_enter Try.func39, Try.ntmps39
  go_wp2_with fail
  refine HC.out.mono ?_
  unfold PlaceP
  rintro e w1 ⟨rfl, hb⟩
  have HJ1 := Lib.hid (HJB.out _ _ _ H0.out hb)
  obtain ⟨nd, -, -, h2, h3, h4, h5, h6, h7, h8, -⟩ := (HJT.out _ _ HJ1.out).beh HPL.out (j := 0) (by omega)
  rw [h2] at h5 h7
  rw [nxt0 (fun n hn => ((HJT.out _ _ HJ1.out).nds n (List.mem_cons_of_mem _ hn)).hh.1)] at h6
  obtain ⟨q, hq⟩ : ∃ q, (L[pos]?).map (fun n => (⟨n.b, 0, none⟩ : Addr)) = q := ⟨_, rfl⟩
  rw [hq] at h6
  have HQ := Lib.hid hq
  have q0 : (0 : Int) < nd.h := by omega
  clear h2 hb hq
  go_wp2_with fail
  go_loopw [6] (fun p wr => ∃ k : Nat, pos ≤ k ∧ k ≤ L.length ∧ p = .pointer ((L[k]?).map fun n => ⟨n.b, 0, none⟩) ∧ Hid (J (((L.map (·.x)).drop pos).take (k - pos)) wr)) (fun p _ => leftV L p)
  case atStart => exact ⟨pos, Nat.le_refl _, HPL.out, by rw [HQ.out], by rw [Nat.sub_self, List.take_zero]; exact HJB.out _ _ _ HJ1.out (bel_alloc (Below.refl _ w1) _)⟩
  case round =>
    obtain ⟨k, hk1, hk2, rfl, hj⟩ := hrel
    have hTk := HJT.out _ _ hj.out
    cases hx : L[k]? with
    | none =>
      have hkl : k = L.length := by have := List.getElem?_eq_none_iff.1 hx; omega
      subst hkl
      simp only [Option.map_none]
      have HD : Hid (J ((L.map (·.x)).drop pos) wr) := Lib.hid (by
        have := hj.out
        rwa [List.take_of_length_le (by simp)] at this)
      go_wp2_with fail
      go_end0
      exact ⟨⟨_, rfl⟩, .inl HD.out⟩
    | some n =>
      simp only [Option.map_some]
      have hkl := (List.getElem?_eq_some_iff.1 hx).1
      have hn := hTk.nds n (List.mem_cons_of_mem _ (List.mem_of_getElem? hx))
      obtain ⟨n0, n1, n2, n3, -, nl⟩ := hn.cells
      obtain ⟨no, nc, ek, -, -, -, -⟩ := hn.k.form
      obtain ⟨mo, mc, ev, -, -, -, -⟩ := hn.v.form
      have HO := Lib.hid (Mt.own_any n.kv n.vv n.x wr hn.k.isB hn.v.isB hn.sh)
      have HLT : Hid (∀ b, S b → b < wr.heap.size) := Lib.hid hTk.lt
      have HXK : Hid ((L.map (·.x))[k]? = some n.x) := Lib.hid (by rw [List.getElem?_map, hx]; rfl)
      rw [ek, ev] at HO
      rw [ek] at n0
      rw [ev] at n3
      have HXN := Lib.hid hx
      have HSU := Lib.hid (show Short n.x ∧ U64 n.x.2.1 from ⟨hn.sh, hn.u⟩)
      clear hn hTk ek ev hx
      go_upto_region 4 with fail
      refine (wpIn_wide (n := 6)).1 ?_
      gi_wp2_with (refine ⟨trivial, ?_⟩; gi_at_call 30; refine (callsIn_wide.2 HO.out).mono ?_; unfold OwnP; rintro e w2 ⟨kv2, vv2, rfl, k2, v2, hb2⟩; obtain ⟨fn, tmps, assign, body, hy, hR⟩ := HY.out (((L.map (·.x)).drop pos).take (k - pos)) n.x wr w2 (.agg #[kv2, .int .u64 n.x.2.1, .bool n.x.2.2.1, vv2]) hj.out hb2 (by rw [List.length_take, List.length_drop, List.length_map]; omega) ⟨kv2, vv2, rfl, k2, v2, HSU.out⟩)
      have HXX := Lib.hid (drop_snoc hk1 HXK.out)
      have HPF : Hid (((L.map (·.x)).drop pos).take (k - pos) ++ [n.x] <+: (L.map (·.x)).drop pos) := Lib.hid (by rw [HXX.out]; exact List.take_prefix _ _)
      refine hR.mono ?_
      rintro e W3 (⟨rfl, hJ3⟩ | ⟨rfl, hJx3⟩)
      · rw [HXX.out] at hJ3
        have hT3 := HJT.out _ _ hJ3
        have hn3 := hT3.nds n (List.mem_cons_of_mem _ (List.mem_of_getElem? HXN.out))
        obtain ⟨-, -, -, -, g4, gl⟩ := hn3.cells
        have gp := hT3.ptrs (k + 1) n (by rw [List.getElem?_cons_succ]; exact HXN.out) 0 (by have := hn3.hh.1; omega)
        rw [List.drop_succ_cons, nxt0 (fun n hn => (hT3.nds n (List.mem_cons_of_mem _ hn)).hh.1)] at gp
        have q1 : (0 : Int) < n.h := by have := hn3.hh.1; omega
        have glr := World.block_lt_of_cell? W3 ⟨n.r, 0, none⟩ gp
        have HJ3 := Lib.hid hJ3
        have HL1 : Hid (leftV L (.pointer ((L[k + 1]?).map fun n => ⟨n.b, 0, none⟩)) < leftV L (.pointer (some ⟨n.b, 0, none⟩))) := Lib.hid (by
          have e1 : leftV L (.pointer (some ⟨n.b, 0, none⟩)) = L.length - k := by
            unfold leftV
            simp only
            rw [hT3.findIdx HXN.out]
          rw [e1]
          cases hx1 : L[k + 1]? with
          | none => simp only [Option.map_none, leftV]; omega
          | some m =>
            simp only [Option.map_some, leftV]
            rw [hT3.findIdx hx1]
            omega)
        obtain ⟨q9, hq9⟩ : ∃ q, (L[k + 1]?).map (fun n => (⟨n.b, 0, none⟩ : Addr)) = q := ⟨_, rfl⟩
        rw [hq9] at gp HL1
        have HQ9 := Lib.hid hq9
        clear hJ3 hT3 hn3 hq9 hR hy n0 n1 n2 n3 k2 v2 hb2
        gi_wp2
        go_wp2_with fail
        go_roundw
        case rel => exact ⟨k + 1, by omega, by omega, by rw [HQ9.out], HJ3.out⟩
        case measure => exact HL1.out
      · clear hR hy n0 n1 n2 n3 k2 v2 hb2
        gi_wp2
        go_wp2_with fail
        refine bodyPost_ret (results_none rfl _ _ _) rfl ?_
        exact ⟨⟨_, rfl⟩, .inr ⟨_, _, HPF.out, hJx3⟩⟩
end Mt
end Go.Proofs.Ytgkgfghmpimaoaa
