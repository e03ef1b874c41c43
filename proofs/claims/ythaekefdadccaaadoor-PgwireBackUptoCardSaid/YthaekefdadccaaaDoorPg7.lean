/- pgwire in the abstract: the document's reading of a first message. pgwire in the abstract: the document's reading of a client's message. pgwire in the abstract: a client's message, the document's and the program's. -/
import Derived.Test.YthaekefdadccaaaDoorPg3
import Derived.Test.YthaekefdadccaaaDoorPg4
import Derived.Test.YthaekefdadccaaaDoorPmD
namespace Go.Proofs.YthaekefdadccaaaDoor
open Go.RowKit
namespace PM
end PM
end Go.Proofs.YthaekefdadccaaaDoor
namespace Go.Proofs.YthaekefdadccaaaDoor
open Go.RowKit
namespace PM
end PM
end Go.Proofs.YthaekefdadccaaaDoor
namespace Go.Proofs.YthaekefdadccaaaDoor
open Go.RowKit
namespace PM
set_option maxRecDepth 100000 in
set_option maxHeartbeats 4000000 in
theorem pOpeningShort (b : List Int) (hb : b.length < 4) : Pure Tryd.prog 32 [bs b] (.tup [zF.v, .d (.int .i64 232)]) := by
  refine pure_intro Tryd.func32 rfl rfl rfl 74 rfl (fun hh => ?_)
  have en : pgNum b false = (0, b, true) := if_pos hb
  repeat' (first
    | ((with_reducible (first
     | (refine PW.seq fun K1 hK1 => ?_) | (refine PW.region fun K2 hK2 => ?_) | ((refine hK3 _ ?_; clear hK3)) | ((refine opsP_nil ?_; refine hK2 _ ?_; clear hK2))
     | (refine PW.block ?_) | (refine PW.ret ?_) | ((refine hY1 ?_; clear hX1 hY1; try simp only [hb])) )))
    | (((with_reducible refine cC_recv (cs := ?_) ?_ ?_ ?_ ?_ (pPgNum ?_ ?_) (fun _ => ?_)); rotate_left 1; (focus (first | exact rfl | (simp only [Ua, Ub]; rfl))); (focus ((with_reducible (repeat' (first | (refine .cons ?_ ?_) | (exact .nil) | (exact .d _) ))) <;> (simp only [purAs, purA, Vf, Bool.and_self, en]; done))); (focus ((with_reducible (repeat' (first | (refine .cons ?_ ?_) | (exact .nil) | (exact .d _) ))) <;> (simp only [purAs, purA, Vf, Bool.and_self, en]; done))); (focus (simp only [purAs, purA, Bool.and_self]; done))))
    | ((simp only [thenP, blockP]; (try ((repeat (fail_if_success (with_reducible refine hK1 _ ?_)); clear hK1); (with_reducible refine hK1 _ ?_); clear hK1))))
    | (((first | (((with_reducible refine opsP_cons fun K3 hK3 => ?_); simp only [wantP, opP, valP, Ur, Us])) | ((with_reducible refine PW.condM fun X1 Y1 hX1 hY1 => ?_)) | (skip)); simp (disch := omega) only [St.eval, St.put, upd_app, iniT_app, avOf, avOf1, nom, cellsA, AV.okv, loadA, binP, intsP, intP, nilP, slA, putCells, fillA, buildA, U7, Ua, Uc, Ud, Uf, Ug, Uk, Un, Up, Ut, Uu, Uv, V9, Vt, UU2, UU3, Vr, PmL, simprocAttr, PmT, en, retQ, resP, tupA, fg, fgs, condP, condB_f]; try (with_reducible (first | exact co_refl _ | exact co_own _ _ _ | exact co_nilsB | exact co_nilsL _ _)))))
  all_goals (try (focus ((try simp only [zF]); (repeat' split) <;> (first | (exfalso; omega) | ((try ((with_reducible refine And.intro ?_ ?_); rotate_left 1; (focus (first | exact subM_row1 | exact subM_nom _ | (refine subM_box1 ?_; simp only [fgs, fg]; (repeat' (first | exact cos_refl _ | refine cos_cons ?_ ?_ | exact co_refl _ | exact co_nilsB | exact co_own _ _ _ | exact co_nilsL _ _ | exact co_nils _ | refine co_agg ?_ | refine co_tup ?_)); done))))); (first | ((repeat' (first | exact cos_refl _ | refine cos_cons ?_ ?_ | exact co_refl _ | exact co_nilsB | exact co_own _ _ _ | exact co_nilsL _ _ | exact co_nils _ | refine co_agg ?_ | refine co_tup ?_)); done) | (refine co_eq ?_; simp_all; done))) | (exfalso; simp_all; done)))))
def openS' (b : List Int) : Front × Int := if b.length < 4 then (zF, 232) else openS b
set_option maxRecDepth 100000 in
theorem pOpening' (b : List Int) : Pure Tryd.prog 32 [bs b] (.tup [(openS' b).1.v, .d (.int .i64 (openS' b).2)]) := by
  by_cases h : b.length < 4
  · have e : openS' b = (zF, 232) := if_pos h
    rw [e]
    exact pOpeningShort b h
  · have e : openS' b = openS b := if_neg h
    rw [e]
    exact pOpening b (by omega)
end PM
end Go.Proofs.YthaekefdadccaaaDoor
