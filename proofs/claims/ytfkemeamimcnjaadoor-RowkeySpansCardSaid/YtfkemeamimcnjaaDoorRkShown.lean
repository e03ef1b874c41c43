/- rowkey in the abstract: the document's examples, reckoned by the evaluator. rowkey in the abstract: the document's examples are as the document says. -/
import Derived.Test.YtfkemeamimcnjaaDoorPmE
import Derived.Test.YtfkemeamimcnjaaDoorPmTy
import Derived.Test.YtfkemeamimcnjaaDoorRkC
import Derived.Test.YtfkemeamimcnjaaDoorPgCat
import Derived.Test.YtfkemeamimcnjaaDoorPgIx
namespace Go.Proofs.YtfkemeamimcnjaaDoor
open Go.RowKit
namespace PM
set_option maxRecDepth 100000
def uncC : List (List DV) → Option (List (List Int))
  | [] => some []
  | [.sl 1 xs] :: r => (match bytesD xs, uncC r with
    | some l, some ls => some (l :: ls)
    | _, _ => none)
  | _ => none
theorem uncC_spec : ∀ {xs : List (List DV)} {ls : List (List Int)}, uncC xs = some ls → xs = ls.map bbC
  | [], ls, h => by unfold uncC at h; cases h; rfl
  | x :: r, ls, h => by
    unfold uncC at h
    split at h
    · rename_i h0; cases h0
    · rename_i xs r' h0
      cases h0
      split at h
      · rename_i l ls' h1 h2
        cases h
        rw [bytesD_spec h1, uncC_spec h2]
        rfl
      · cases h
    · cases h
theorem pConcatD (ls : List (List Int)) (hs : catLen ls ≤ 140737488355328) : Pure Tryd.prog 40 [.d (.sl 1 (ls.map bbC))] (bs ls.flatten) :=
  pure_of_calls Tryd.func40 rfl rfl fun G w vs hm ha => by
    unfold RelAs at ha
    obtain ⟨v1, vs, rfl, h1, ha⟩ := ha
    unfold RelAs at ha
    subst ha
    have hb := relD_isBB h1.dat
    exact (concat_any v1 ls w hb hs).mono fun e w' ⟨v, k1, k2, k3⟩ => ⟨v, k1, k3, ownS_new hm (OwnS.of_own k2 (flat_rng (isBB_rng hb)))⟩
theorem pKeyIntD (n : Int) : Pure Tryd.prog 71 [.d (.int .i64 n)] (bs (Codec.keyL n)) :=
  pure_of_calls Tryd.func71 rfl rfl fun G w vs hm ha => by
    unfold RelAs at ha
    obtain ⟨v1, vs, rfl, h1, ha⟩ := ha
    unfold RelAs at ha
    subst ha
    obtain ⟨rfl, hw⟩ := h1.int
    rw [wf_i64] at hw
    simp only [Bool.and_eq_true, decide_eq_true_eq] at hw
    exact (Codec.keyInt_any n w hw).mono fun e w' ⟨v, k1, k2, k3⟩ => ⟨v, k1, k3, ownS_new hm (OwnS.of_own k2 (Codec.keyL_rng hw))⟩
theorem pKeyTextD (l : List Int) (hl : l.length ≤ 1099511627776) : Pure Tryd.prog 83 [bs l] (bs (Codec.keyT l)) :=
  pure_of_calls Tryd.func83 rfl rfl fun G w vs hm ha => by
    unfold RelAs at ha
    obtain ⟨v1, vs, rfl, h1, ha⟩ := ha
    unfold RelAs at ha
    subst ha
    exact (Codec.keyText_any v1 l w h1.dat.isB.1 hl).mono fun e w' ⟨v, k1, k2, k3⟩ => ⟨v, k1, k3, ownS_new hm (OwnS.of_own k2 (Codec.keyT_rng h1.dat.isB.1.rng))⟩
def evT : Nat → Wd := fun f => lkW f [(5, [], [(15, ([(0, 2), (1, 2), (2, 2), (3, 1), (4, 2), (5, 2), (6, 1), (7, 0), (8, 0), (9, 0), (10, 0), (11, 0), (12, 0)], [12])), (20, ([(0, 2), (1, 2), (2, 2), (3, 1), (4, 2), (5, 2), (6, 1), (7, 0), (8, 0), (9, 0), (10, 0), (11, 0), (12, 0)], [12]))]),
  (7, [], [(13, ([(0, 1), (1, 2), (2, 1), (3, 2), (4, 2), (5, 1), (6, 2), (7, 2), (8, 2), (9, 2), (10, 2), (11, 0), (12, 0), (13, 0)], [12, 13])), (14, ([(0, 1), (1, 2), (2, 1), (3, 2), (4, 2), (5, 1), (6, 2), (7, 2), (8, 2), (9, 2), (10, 2), (11, 0), (12, 0), (13, 0)], [12, 13]))]),
  (8, [], [(5, ([(0, 1), (1, 0), (2, 0), (3, 0)], [2, 3])), (6, ([(0, 1), (1, 0), (2, 0), (3, 0), (4, 0)], [3, 4])), (7, ([(0, 1), (1, 2), (2, 0), (3, 0), (4, 0), (5, 0)], [4, 5]))]),
  (9, [(18, 2)], [(5, ([(0, 0), (1, 0), (2, 0), (3, 0), (4, 0), (5, 0), (6, 0), (7, 0), (8, 0), (9, 0), (10, 0), (11, 0), (12, 0), (13, 0), (14, 0), (15, 0), (16, 0), (17, 0), (18, 0), (19, 0), (20, 0), (21, 0), (22, 0), (23, 0), (24, 2), (25, 2), (26, 1), (27, 0), (28, 0), (29, 0), (30, 0), (31, 0)], [30, 31])), (8, ([(0, 1), (1, 2), (2, 1), (3, 2), (4, 1), (5, 2), (6, 2), (7, 2), (8, 2), (9, 2), (10, 0), (11, 0), (12, 0)], [11, 12])), (9, ([(0, 1), (1, 2), (2, 1), (3, 2), (4, 1), (5, 0), (6, 0), (7, 0), (8, 2), (9, 2), (10, 2), (11, 0), (12, 0), (13, 0)], [6, 7, 11, 12, 13]))]),
  (10, [], [(7, ([(0, 2), (1, 1), (3, 2), (4, 1), (5, 2), (2, 0), (6, 0), (7, 0)], [6, 7]))]),
  (11, [], [(5, ([(0, 2), (1, 1), (4, 2), (5, 2), (6, 1), (2, 2), (3, 2), (7, 2), (8, 2), (9, 2), (10, 2), (11, 0), (12, 0)], [12])), (10, ([(0, 2), (1, 1), (2, 0), (3, 0), (4, 0), (5, 0), (6, 0)], [4, 5, 6]))]),
  (13, [(22, 2)], []),
  (14, [], [(6, ([(0, 2), (1, 2), (2, 2), (3, 1), (4, 2), (5, 0), (6, 0), (7, 0), (8, 0)], [8]))]),
  (15, [(29, 2)], [(7, ([(0, 1), (1, 2), (2, 1), (3, 2), (4, 1), (5, 2), (6, 0), (7, 0), (8, 0), (9, 2), (10, 2), (11, 0), (12, 0)], [7, 8, 11, 12]))]),
  (16, [], [(7, ([(0, 2), (1, 1), (2, 2), (3, 1), (5, 2), (6, 1), (7, 2), (4, 0), (8, 0), (9, 0)], [8, 9]))]),
  (17, [], [(5, ([(0, 2), (1, 1), (2, 2), (3, 1), (6, 2), (7, 2), (8, 1), (10, 2), (11, 2), (12, 1), (4, 0), (5, 0), (9, 0), (13, 0), (14, 0), (15, 0), (16, 0)], [13, 14, 15, 16]))]),
  (18, [(48, 2)], []),
  (19, [(67, 2)], [(5, ([(0, 0), (1, 0), (2, 0), (3, 0), (4, 0), (5, 0), (6, 0), (7, 0), (8, 0), (9, 0), (10, 0), (11, 0), (12, 0), (13, 0), (14, 0), (15, 0), (16, 0), (17, 2), (18, 1), (19, 2), (20, 2), (21, 0), (22, 0), (23, 0), (24, 0)], [23, 24])), (8, ([(0, 1), (1, 2), (2, 1), (3, 2), (4, 1), (5, 2), (6, 0), (7, 0), (8, 0), (9, 2), (10, 2), (11, 0), (12, 0)], [7, 8, 11, 12])), (26, ([(0, 2), (1, 2), (2, 2), (3, 1), (4, 2), (5, 2), (6, 2), (7, 1), (8, 2), (9, 1), (10, 0), (11, 0), (12, 0), (13, 0), (14, 0), (15, 0), (16, 0), (17, 0)], [15, 16, 17]))]),
  (20, [], [(4, ([(0, 2), (1, 2), (2, 2), (3, 1), (4, 2), (5, 0), (6, 0), (7, 0), (8, 0)], [8])), (5, ([(0, 2), (1, 2), (2, 2), (3, 1), (4, 2), (5, 0), (6, 0), (7, 0), (8, 0)], [8]))]),
  (21, [], [(4, ([(0, 2), (1, 2), (2, 2), (3, 2), (4, 1), (5, 2), (6, 1), (7, 2), (8, 2), (9, 0), (10, 0), (11, 0), (12, 0), (13, 0), (14, 0), (15, 0)], [14, 15]))]),
  (31, [], [(12, ([(0, 2), (1, 2), (2, 2), (3, 2), (4, 0), (5, 0), (6, 0), (7, 0), (8, 0)], [4, 5, 6, 7, 8])), (24, ([(0, 2), (1, 1), (2, 1), (4, 2), (5, 1), (6, 1), (3, 0), (7, 0), (8, 0), (9, 0), (10, 0)], [7, 8, 9, 10]))]),
  (33, [], [(7, ([(0, 0), (1, 0), (2, 0), (3, 2), (4, 2), (5, 2), (6, 2), (7, 1), (8, 2), (9, 1), (10, 0), (11, 0), (12, 0), (13, 0), (14, 0), (15, 0), (16, 0), (17, 2), (18, 0), (19, 0), (20, 0), (21, 0), (22, 0), (23, 2), (24, 1), (25, 0), (26, 0), (27, 0), (28, 0), (29, 0), (30, 0)], [26, 27, 28, 29, 30]))]),
  (39, [], [(6, ([(0, 1), (1, 2), (2, 1), (3, 0), (4, 0), (5, 0), (6, 0), (7, 0), (8, 0), (9, 0), (10, 0), (11, 0), (12, 0), (13, 2), (14, 1), (15, 0), (16, 0), (17, 0), (18, 0), (19, 0), (20, 0)], [16, 17, 18, 19, 20]))]),
  (41, [(6, 1)], []),
  (44, [(20, 1)], []),
  (50, [], [(4, ([(0, 2), (1, 2), (2, 1), (3, 2), (4, 2), (5, 2), (6, 1), (7, 2), (8, 2), (9, 1), (10, 2), (11, 2), (12, 2), (13, 2), (14, 2), (15, 0), (16, 0), (17, 0), (18, 0)], [16, 17, 18])), (7, ([(0, 2), (1, 2), (2, 2), (3, 2), (4, 1), (5, 0), (6, 0), (7, 0)], [6, 7]))]),
  (51, [], [(3, ([(0, 1), (1, 2), (2, 2), (3, 2), (4, 1), (5, 2), (6, 2), (7, 2), (8, 1), (9, 2), (10, 0), (11, 0), (12, 0)], [12]))]),
  (55, [(6, 1)], []),
  (58, [(5, 1)], []),
  (59, [], [(6, ([(0, 0), (1, 0), (2, 0), (3, 1), (4, 2), (5, 1), (6, 2), (7, 0), (8, 0), (9, 0), (10, 0), (11, 0), (12, 0), (13, 0), (14, 0), (15, 0)], [13, 14, 15]))]),
  (60, [(11, 1), (24, 1)], []),
  (63, [], [(9, ([(0, 2), (1, 2), (2, 2), (3, 1), (4, 2), (5, 0), (6, 0), (7, 0), (8, 0)], [8]))]),
  (66, [(9, 2)], []),
  (71, [(9, 2)], []),
  (79, [(5, 1)], []),
  (80, [], [(6, ([(0, 1), (1, 2), (2, 2), (3, 0), (4, 0), (5, 0)], [3, 4, 5])), (14, ([(0, 1), (1, 2), (2, 2), (3, 2), (4, 0), (5, 0), (6, 0)], [4, 5, 6])), (19, ([(0, 1), (1, 2), (2, 2), (3, 0), (4, 0), (5, 0)], [3, 4, 5])), (24, ([(0, 1), (1, 2), (2, 2), (3, 2), (4, 0), (5, 0), (6, 0)], [4, 5, 6]))]),
  (101, [(44, 2)], [(15, ([(0, 2), (1, 2), (2, 2), (3, 2), (4, 2), (5, 2), (6, 0), (7, 0), (8, 0), (9, 0), (10, 0)], [6, 7, 8, 9, 10])), (24, ([(0, 2), (1, 2), (2, 2), (3, 2), (4, 2), (5, 2), (6, 0), (7, 0), (8, 0), (9, 0), (10, 0)], [6, 7, 8, 9, 10])), (28, ([(0, 2), (1, 2), (2, 2), (3, 2), (4, 2), (5, 0), (6, 0), (7, 0), (8, 0), (9, 0)], [5, 6, 7, 8, 9]))]),
  (111, [], [(8, ([(0, 2), (1, 0), (2, 0), (3, 0), (4, 2), (5, 2), (6, 2), (7, 2), (8, 0), (9, 0), (10, 0), (11, 0)], [1, 2, 3, 8, 9, 10, 11])), (16, ([(0, 2), (1, 0), (2, 0), (3, 0), (4, 2), (5, 2), (6, 2), (7, 2), (8, 2), (9, 2), (10, 2), (11, 0), (12, 0), (13, 0), (14, 0)], [1, 2, 3, 11, 12, 13, 14]))])]
def evX : Pu := fun f args => if Nat.beq f 71 = true then (match args with
  | [.d (.int .i64 n)] => some (bs (Codec.keyL n))
  | _ => none) else if Nat.beq f 87 = true then (match args with
  | [.d (.str l), .d (.int .u8 c)] => if 0 ≤ c ∧ c ≤ 255 then some (.d (.int .i64 (idxI l c))) else none
  | _ => none) else if Nat.beq f 40 = true then (match args with
  | [.d (.sl 1 xs)] => (match uncC xs with
    | some ls => if catLen ls ≤ 140737488355328 then some (bs ls.flatten) else none
    | none => none)
  | _ => none) else if Nat.beq f 83 = true then (match args with
  | [.d (.sl 1 xs)] => (match bytesD xs with
    | some l => if l.length ≤ 1099511627776 then some (bs (Codec.keyT l)) else none
    | none => none)
  | _ => none) else if Nat.beq f 73 = true then (match args with
  | [.d (.sl 1 xs)] => (match bytesD xs with
    | some l => if l.length ≤ 2097152 then some (.tup [bs (textB l), .d (.int .i64 0)]) else none
    | none => none)
  | _ => none) else if Nat.beq f 48 = true then (match args with
  | [.d (.sl 1 xs)] => (match bytesD xs with
    | some l => some (.tup [bs (Codec.takeTextF l).1, .d (.int .i64 (Codec.takeTextF l).2.1), .d (.int .i64 (Codec.takeTextF l).2.2)])
    | none => none)
  | _ => none) else if Nat.beq f 74 = true then (match args with
  | [.d (.sl 1 xs)] => (match bytesD xs with
    | some l => if l.length ≤ 140737488355327 then some (.tup [bs (Codec.tkL l).1, .d (.int .i64 (Codec.tkL l).2.1), .d (.int .i64 (Codec.tkL l).2.2)]) else none
    | none => none)
  | _ => none) else if Nat.beq f 76 = true then (match args with
  | [.d (.sl 1 xs)] => (match bytesD xs with
    | some l => some (.tup [.d (.int .i64 (Codec.takeKeyIntF l).1), .d (.int .i64 (Codec.takeKeyIntF l).2.1), .d (.int .i64 (Codec.takeKeyIntF l).2.2)])
    | none => none)
  | _ => none) else none
theorem evX_ok : ExOk Tryd.prog evX := fun f args r h => by
  unfold evX at h
  split at h
  · rename_i hf
    have hf' := Nat.eq_of_beq_eq_true hf
    subst hf'
    split at h
    · cases h
      exact ⟨pKeyIntD _, rfl, rfl⟩
    · cases h
  · split at h
    · rename_i hf
      have hf' := Nat.eq_of_beq_eq_true hf
      subst hf'
      split at h
      · split at h
        · rename_i hc
          cases h
          exact ⟨pIndexS _ _ hc, rfl, rfl⟩
        · cases h
      · cases h
    · split at h
      · rename_i hf
        have hf' := Nat.eq_of_beq_eq_true hf
        subst hf'
        split at h
        · split at h
          · rename_i ls hu
            rw [uncC_spec hu]
            split at h
            · rename_i hc
              cases h
              exact ⟨pConcatD _ hc, rfl, rfl⟩
            · cases h
          · cases h
        · cases h
      · split at h
        · rename_i hf
          have hf' := Nat.eq_of_beq_eq_true hf
          subst hf'
          split at h
          · split at h
            · rename_i l hu
              rw [bytesD_spec hu]
              split at h
              · rename_i hc
                cases h
                exact ⟨pKeyTextD _ hc, rfl, rfl⟩
              · cases h
            · cases h
          · cases h
        · split at h
          · rename_i hf
            have hf' := Nat.eq_of_beq_eq_true hf
            subst hf'
            split at h
            · split at h
              · rename_i l hu
                rw [bytesD_spec hu]
                split at h
                · rename_i hc
                  cases h
                  exact ⟨pText _ hc, rfl, rfl⟩
                · cases h
              · cases h
            · cases h
          · split at h
            · rename_i hf
              have hf' := Nat.eq_of_beq_eq_true hf
              subst hf'
              split at h
              · split at h
                · rename_i l hu
                  rw [bytesD_spec hu]
                  cases h
                  exact ⟨pTakeText _, rfl, rfl⟩
                · cases h
              · cases h
            · split at h
              · rename_i hf
                have hf' := Nat.eq_of_beq_eq_true hf
                subst hf'
                split at h
                · split at h
                  · rename_i l hu
                    rw [bytesD_spec hu]
                    split at h
                    · rename_i hc
                      cases h
                      exact ⟨pTakeKeyText _ hc, rfl, rfl⟩
                    · cases h
                  · cases h
                · cases h
              · split at h
                · rename_i hf
                  have hf' := Nat.eq_of_beq_eq_true hf
                  subst hf'
                  split at h
                  · split at h
                    · rename_i l hu
                      rw [bytesD_spec hu]
                      cases h
                      exact ⟨pTakeKeyInt _, rfl, rfl⟩
                    · cases h
                  · cases h
                · cases h
end PM
end Go.Proofs.YtfkemeamimcnjaaDoor
namespace Go.Proofs.YtfkemeamimcnjaaDoor
open Go.RowKit
namespace PM
set_option maxRecDepth 100000
theorem pShown : Pure Tryd.prog 9 [] (.d (.bool true)) := pure_ev (T := evT) evX_ok 100000 60 (by kernel_rfl)
end PM
end Go.Proofs.YtfkemeamimcnjaaDoor
