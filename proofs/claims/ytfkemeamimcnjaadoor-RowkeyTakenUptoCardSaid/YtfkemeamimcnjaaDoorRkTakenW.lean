/- rowkey: RowkeyTaken in the abstract, and its walk. -/
import Derived.Test.YtfkemeamimcnjaaDoorRkw1
import Derived.Test.YtfkemeamimcnjaaDoorRkOpen
import Derived.Test.YtfkemeamimcnjaaDoorRkShown
namespace Go.Proofs.YtfkemeamimcnjaaDoor
open Go.RowKit
set_option maxRecDepth 100000
namespace PM
set_option maxHeartbeats 8000000 in
theorem pRowkeyTaken (T : Tb) (X : Idx) (K V : List Int) (hT : tbSmall T) (hX : X.cols.length ≤ 1048576) (hK : K.length ≤ 1048576) (hV : V.length ≤ 1048576) : Pure Tryd.prog 6 [T.v, X.av, kvA K V] (.d (.bool true)) := by
  refine pure_intro Tryd.func6 rfl rfl rfl 51 rfl (fun hh => ?_)
  have hKr : Rng K := (has_bytes (has_agg (hh (kvA K V) (by simp)) (bs K) (by simp))).1
  have hS := pShown
  have h1 := pRTakeEntry T X K V ⟨hT.1, hT.2.1⟩ hX hV hK
  have h2 := pTakeEntry T X K V ⟨hT.1, hT.2.1⟩ hX hV hK
  rw [takeEnt_same _ _ _ _ hKr] at h1
  obtain ⟨⟨A, B, e⟩, hr⟩ : ∃ r, takeEntS T X K V = r := ⟨_, rfl⟩
  rw [hr] at h1 h2
  unfold entR at h1 h2
  simp only at h1 h2
  have h3 := pSameV A
  have h4 := pSameV B
  obtain ⟨tid, tnm, tcols, tkey, tix⟩ := T
  obtain ⟨xid, xnm, xcols, xu⟩ := X
  unfold Tb.v Tb.c Idx.av at h1 h2
  simp only at h1 h2
  repeat' (first
    | ((with_reducible (first
     | (refine PW.seq fun K1 hK1 => ?_) | (refine PW.region fun K2 hK2 => ?_) | ((refine hK3 _ ?_; clear hK3)) | ((refine opsP_nil ?_; refine hK2 _ ?_; clear hK2)) 
     | (refine PW.ret ?_) )))
    | (((with_reducible refine cC_pure ?_ (hS) (fun _ => ?_)); (focus ((repeat' constructor) <;> (simp only [purAs, purA, Vf, Bool.and_self, Tb.v, Tb.c, Idx.av, kvA]; done)))))
    | (((with_reducible refine cC_pure ?_ (h1) (fun _ => ?_)); (focus ((repeat' constructor) <;> (simp only [purAs, purA, Vf, Bool.and_self, Tb.v, Tb.c, Idx.av, kvA]; done)))))
    | (((with_reducible refine cC_pure ?_ (h2) (fun _ => ?_)); (focus ((repeat' constructor) <;> (simp only [purAs, purA, Vf, Bool.and_self, Tb.v, Tb.c, Idx.av, kvA]; done)))))
    | (((with_reducible refine cC_pure ?_ (h3) (fun _ => ?_)); (focus ((repeat' constructor) <;> (simp only [purAs, purA, Vf, Bool.and_self, Tb.v, Tb.c, Idx.av, kvA]; done)))))
    | (((with_reducible refine cC_pure ?_ (h4) (fun _ => ?_)); (focus ((repeat' constructor) <;> (simp only [purAs, purA, Vf, Bool.and_self, Tb.v, Tb.c, Idx.av, kvA]; done)))))
    | ((simp only [thenP]; (try ((repeat (fail_if_success (with_reducible refine hK1 _ ?_)); clear hK1); (with_reducible refine hK1 _ ?_); clear hK1))))
    | (((first | (((with_reducible refine opsP_cons fun K3 hK3 => ?_); simp only [wantP, opP, valP, Ur, Us])) | (skip)); simp (disch := omega) only [wantB_tt, St.eval, St.put, upd_app, iniT_app, avOf, avOf1, nom, cellsA, AV.okv, loadA, binP, intsP, intP, nilP, slA, U7, U8, Ua, Ub, Uf, Ug, Uk, Un, Up, Ut, Uu, Uv, Uz, V4, V9, Ve, Vr, PmL, simprocAttr, PmT, Tb.v, Tb.c, Idx.av, kvA, retQ, resP, tupA, fg]; try (with_reducible (first | exact co_refl _ | exact co_own _ _ _ | exact co_nilsB | exact co_nilsL _ _)))))
end PM
open PM
/-- the walk of RowkeyTaken -/
theorem taken_walk (v0 v1 v2 : Value) (T : Tb) (X : Idx) (x : List Int × List Int) (w : World) (h0 : RelA G0 nom w T.v v0) (h1 : RelA G0 nom w X.av v1) (h2 : RelA G0 nom w (kvA x.1 x.2) v2) (hT : tbSmall T) (hX : X.cols.length ≤ 1048576) (hx : x.1.length ≤ 1048576 ∧ x.2.length ≤ 1048576) :
    Calls Tryd.prog 6 #[v0, v1, v2] w (Ret (.bool true) w) := by
  have hc := calls_of_pure (vs := [v0, v1, v2]) Tryd.func6 rfl rfl (pRowkeyTaken T X x.1 x.2 hT hX hx.1 hx.2) (.cons h0 (.cons h1 (.cons h2 .nil)))
  refine hc.mono fun e w' ⟨v', G', k1, k2, k3, k4⟩ => ⟨?_, k2⟩
  rw [k1, k4.bool]
end Go.Proofs.YtfkemeamimcnjaaDoor
