/- rowkey: RowkeyTakes in the abstract, and its walk. -/
import Derived.Test.YtfkemeamimcnjaaDoorRku3
import Derived.Test.YtfkemeamimcnjaaDoorRkc
import Derived.Test.YtfkemeamimcnjaaDoorRkOpen
import Derived.Test.YtfkemeamimcnjaaDoorRkShown
namespace Go.Proofs.YtfkemeamimcnjaaDoor
open Go.RowKit
set_option maxRecDepth 100000
namespace PM
set_option maxHeartbeats 8000000 in
theorem pRowkeyTakes (T : Tb) (K V : List Int) (hT : tbSmall T) (hK : K.length ≤ 1048576) (hV : V.length ≤ 1048576) : Pure Tryd.prog 4 [T.v, kvA K V] (.d (.bool true)) := by
  refine pure_intro Tryd.func4 rfl rfl rfl 36 rfl (fun hh => ?_)
  have hS := pShown
  have h1 := pRTakeRow T K V ⟨hT.1, hT.2.1⟩ hV hK
  have h2 := pTakeRow T K V ⟨hT.1, hT.2.1⟩ hV hK
  rw [takeRow_same] at h1
  obtain ⟨⟨R, e⟩, hr⟩ : ∃ r, takeRowS T K V = r := ⟨_, rfl⟩
  rw [hr] at h1 h2
  unfold rowR at h1 h2
  simp only at h1 h2
  have h3 := pSameV R
  obtain ⟨tid, tnm, tcols, tkey, tix⟩ := T
  unfold Tb.v Tb.c at h1 h2
  repeat' (first
    | ((with_reducible (first
     | (refine PW.seq fun K1 hK1 => ?_) | (refine PW.region fun K2 hK2 => ?_) | ((refine hK3 _ ?_; clear hK3)) | ((refine opsP_nil ?_; refine hK2 _ ?_; clear hK2)) 
     | (refine PW.ret ?_) )))
    | (((with_reducible refine cC_pure ?_ (hS) (fun _ => ?_)); (focus ((repeat' constructor) <;> (simp only [purAs, purA, Vf, Bool.and_self, Tb.v, Tb.c, kvA]; done)))))
    | (((with_reducible refine cC_pure ?_ (h1) (fun _ => ?_)); (focus ((repeat' constructor) <;> (simp only [purAs, purA, Vf, Bool.and_self, Tb.v, Tb.c, kvA]; done)))))
    | (((with_reducible refine cC_pure ?_ (h2) (fun _ => ?_)); (focus ((repeat' constructor) <;> (simp only [purAs, purA, Vf, Bool.and_self, Tb.v, Tb.c, kvA]; done)))))
    | (((with_reducible refine cC_pure ?_ (h3) (fun _ => ?_)); (focus ((repeat' constructor) <;> (simp only [purAs, purA, Vf, Bool.and_self, Tb.v, Tb.c, kvA]; done)))))
    | ((simp only [thenP]; (try ((repeat (fail_if_success (with_reducible refine hK1 _ ?_)); clear hK1); (with_reducible refine hK1 _ ?_); clear hK1))))
    | (((first | (((with_reducible refine opsP_cons fun K3 hK3 => ?_); simp only [wantP, opP, valP, Ur, Us])) | (skip)); simp (disch := omega) only [wantB_tt, St.eval, St.put, upd_app, iniT_app, avOf, avOf1, nom, cellsA, AV.okv, loadA, binP, intsP, intP, nilP, slA, U7, U8, Ua, Ub, Uf, Ug, Uk, Un, Up, Ut, Uu, Uv, Uz, V4, V9, Ve, Vr, PmL, simprocAttr, PmT, Tb.v, Tb.c, kvA, retQ, resP, tupA, fg]; try (with_reducible (first | exact co_refl _ | exact co_own _ _ _ | exact co_nilsB | exact co_nilsL _ _)))))
end PM
open PM
/-- the walk of RowkeyTakes -/
theorem takes_walk (v0 v1 : Value) (T : Tb) (x : List Int × List Int) (w : World) (h0 : RelA G0 nom w T.v v0) (h1 : RelA G0 nom w (kvA x.1 x.2) v1) (hT : tbSmall T) (hx : x.1.length ≤ 1048576 ∧ x.2.length ≤ 1048576) :
    Calls Tryd.prog 4 #[v0, v1] w (Ret (.bool true) w) := by
  have hc := calls_of_pure (vs := [v0, v1]) Tryd.func4 rfl rfl (pRowkeyTakes T x.1 x.2 hT hx.1 hx.2) (.cons h0 (.cons h1 .nil))
  refine hc.mono fun e w' ⟨v', G', k1, k2, k3, k4⟩ => ⟨?_, k2⟩
  rw [k1, k4.bool]
end Go.Proofs.YtfkemeamimcnjaaDoor
