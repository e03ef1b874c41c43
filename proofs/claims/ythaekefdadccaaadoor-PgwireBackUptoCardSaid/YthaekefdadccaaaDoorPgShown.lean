/- pgwire: the document's examples, in the abstract. -/
import Derived.Test.YthaekefdadccaaaDoorPg10
import Derived.Test.YthaekefdadccaaaDoorPg14
import Derived.Test.YthaekefdadccaaaDoorPg6
namespace Go.Proofs.YthaekefdadccaaaDoor
open Go.RowKit
namespace PM
theorem ex_ready : putEnd ⟨4, [], [], 0, 0, 73, [], [], [], false⟩ (statusOk 73) 0 [73] = ([90, 0, 0, 0, 5, 73], 0) := by decide
theorem ex_error : putEnd ⟨9, [], [120], 0, 0, 0, [], [], [52, 50, 54, 48, 49], false⟩ (stated [52, 50, 54, 48, 49] && !has0 [120]) 0 (errBody ⟨9, [], [120], 0, 0, 0, [], [], [52, 50, 54, 48, 49], false⟩) =
  ([69, 0, 0, 0, 29, 83, 69, 82, 82, 79, 82, 0, 86, 69, 82, 82, 79, 82, 0, 67, 52, 50, 54, 48, 49, 0, 77, 120, 0, 0], 0) := by decide
theorem ex_cancel : takeFrontS [0, 0, 0, 8, 4, 210, 22, 47] true = (⟨2, [], [], 0, 0, 0⟩, 8, 0) := by kernel_rfl
theorem ex_query : takeFrontS [81, 0, 0, 0, 6, 59, 0, 9] false = (⟨4, [], [59], 0, 0, 0⟩, 7, 0) := by kernel_rfl
theorem ex_short : takeFrontS [81, 0, 0] false = (⟨0, [], [], 0, 0, 0⟩, 0, 10) := by kernel_rfl
set_option maxRecDepth 100000 in
set_option maxHeartbeats 4000000 in
theorem pShown : Pure Tryd.prog 11 [] (.d (.bool true)) := by
  refine pure_intro Tryd.func11 rfl rfl rfl 99 rfl (fun hh => ?_)
  have h1 := pTakeFront [0, 0, 0, 8, 4, 210, 22, 47] true
  have h2 := pTakeFront [81, 0, 0, 0, 6, 59, 0, 9] false
  have h3 := pTakeFront [81, 0, 0] false
  have h4 := pPutReady ⟨4, [], [], 0, 0, 73, [], [], [], false⟩ rfl
  have h5 := pPutError ⟨9, [], [120], 0, 0, 0, [], [], [52, 50, 54, 48, 49], false⟩ rfl (by decide)
  rw [ex_cancel] at h1
  rw [ex_query] at h2
  rw [ex_short] at h3
  rw [ex_ready] at h4
  rw [ex_error] at h5
  simp only [Front.v, Front.c, List.map_cons, List.map_nil] at h1 h2 h3
  simp only [Back.v, Back.c, List.map_cons, List.map_nil] at h4 h5
  have e1 : bs [0, 0, 0, 8, 4, 210, 22, 47] = .d (.sl 1 [[.int .u8 0], [.int .u8 0], [.int .u8 0], [.int .u8 8], [.int .u8 4], [.int .u8 210], [.int .u8 22], [.int .u8 47]]) := rfl
  have e2 : bs [81, 0, 0, 0, 6, 59, 0, 9] = .d (.sl 1 [[.int .u8 81], [.int .u8 0], [.int .u8 0], [.int .u8 0], [.int .u8 6], [.int .u8 59], [.int .u8 0], [.int .u8 9]]) := rfl
  have e3 : bs [81, 0, 0] = .d (.sl 1 [[.int .u8 81], [.int .u8 0], [.int .u8 0]]) := rfl
  rw [e1] at h1
  rw [e2] at h2
  rw [e3] at h3
  repeat' (first
    | ((with_reducible (first
     | (refine PW.seq fun K1 hK1 => ?_) | (refine PW.region fun K2 hK2 => ?_) | ((refine hK3 _ ?_; clear hK3)) | ((refine opsP_nil ?_; refine hK2 _ ?_; clear hK2)) | (refine litX_old ?_) | (refine litC_data ?_) 
     | (refine PW.ret ?_) )))
    | (((with_reducible refine cC_pure ?_ (h1) (fun _ => ?_)); (focus ((repeat' constructor); done))))
    | (((with_reducible refine cC_pure ?_ (h2) (fun _ => ?_)); (focus ((repeat' constructor); done))))
    | (((with_reducible refine cC_pure ?_ (h3) (fun _ => ?_)); (focus ((repeat' constructor); done))))
    | (((with_reducible refine cC_pure ?_ (h4) (fun _ => ?_)); (focus ((repeat' constructor); done))))
    | (((with_reducible refine cC_pure ?_ (h5) (fun _ => ?_)); (focus ((repeat' constructor); done))))
    | (((with_reducible refine cC_pure ?_ (pStateSyntax) (fun _ => ?_)); (focus ((repeat' constructor); done))))
    | ((simp only [thenP]; (try ((repeat (fail_if_success (with_reducible refine hK1 _ ?_)); clear hK1); (with_reducible refine hK1 _ ?_); clear hK1))))
    | (((first | ((with_reducible (first | refine opsP_consMt (d := ?_) (dj := ?_) (b := ?_) (r := ?_) ?_ ?_ (fun hb => ?_) (fun K3 hK3 => ?_) | refine opsP_consMf (d := ?_) (dj := ?_) (b := ?_) (r := ?_) ?_ ?_ (fun hb => ?_) (fun K3 hK3 => ?_))); rotate_left 3; (focus exact rfl); (focus (simp only [upd_app, simprocAttr]; exact rfl))) | ((with_reducible (first | refine opsP_consNt (d := ?_) (dj := ?_) (b := ?_) (r := ?_) (c := ?_) ?_ ?_ (fun hb => ?_) (fun K3 hK3 => ?_) | refine opsP_consNf (d := ?_) (dj := ?_) (b := ?_) (r := ?_) (c := ?_) ?_ ?_ (fun hb => ?_) (fun K3 hK3 => ?_))); rotate_left 4; (focus exact rfl); (focus (simp only [St.put, upd_app, iniT_app, simprocAttr, mrg_t, mrg_f]; exact rfl)))); (focus (simp only [opP, valP, Ur, Us]; (try (simp only at hb)); (try (have hp := hb; simp only [PmH, beq_iff_eq, beq_eq_false_iff_ne, ne_eq] at hp)); simp (disch := omega) only [St.eval, upd_app, avOf, avOf1, loadA, lenP, binP, intsP, intP, strP, nilP, convP, builtinP, bsz, U1, isMapA, slA, Ua, Ub, Uf, Ug, Uk, Ul, Ur, Us, V9, Va, Ve, Int.cast_ofNat_Int, PmL, simprocAttr, PmT]; (repeat' (first | (exact rfl) | ((refine And.intro ?_ ?_); (focus (exact rfl)); (exact rfl)) | (refine And.intro (by first | omega | (simp; done) | assumption) ?_) | ((with_reducible refine cC_pure ?_ (h1) (fun _ => ?_)); (focus ((repeat' constructor); done))) | ((with_reducible refine cC_pure ?_ (h2) (fun _ => ?_)); (focus ((repeat' constructor); done))) | ((with_reducible refine cC_pure ?_ (h3) (fun _ => ?_)); (focus ((repeat' constructor); done))) | ((with_reducible refine cC_pure ?_ (h4) (fun _ => ?_)); (focus ((repeat' constructor); done))) | ((with_reducible refine cC_pure ?_ (h5) (fun _ => ?_)); (focus ((repeat' constructor); done))) | ((with_reducible refine cC_pure ?_ (pStateSyntax) (fun _ => ?_)); (focus ((repeat' constructor); done))))); done)); (try simp only [St.put, Nat.reduceLT, ↓reduceIte, mrg_t])))
    | (((first | (((with_reducible refine opsP_cons fun K3 hK3 => ?_); simp only [wantP, opP, valP, Ur, Us, List.mapM_cons, List.mapM_nil, Uw, Ux])) | (skip)); simp (disch := omega) only [St.eval, St.put, upd_app, avOf, avOf1, nom, cellsA, AV.okv, binP, intsP, intP, nilP, bsz, U1, U3, U4, U5, slA, putCells, fillA, buildA, elA, dv1, Ua, Ub, Uc, Ud, Uf, Ug, Ur, Us, Ut, Uu, Uv, List.mapM_cons, List.mapM_nil, Uw, Ux, V0, V1, V4, Option.bind_eq_bind, Option.pure_def, V9, Ve, Vt, Int.cast_ofNat_Int, UU2, UU3, UU9, Vr, Vs, PmL, simprocAttr, PmT, retQ, resP, tupA, fg]; try (with_reducible (first | exact co_refl _ | exact co_own _ _ _ | exact co_nilsB | exact co_nilsL _ _)))))
theorem bool_ret {G' : Gh} {w : World} {v : Value} (h : RelA G' nom w (.d (.bool true)) v) : v = .bool true := by
  unfold RelA RelD at h
  exact h
end PM
end Go.Proofs.YthaekefdadccaaaDoor
