/- memtable: the reference's Put. -/
import Derived.Test.YtgkgfghmpimaoaaMt21
set_option linter.unusedVariables false
set_option linter.unusedSimpArgs false
namespace Go.Proofs.Ytgkgfghmpimaoaa
open Go.RowKit
namespace Mt
theorem infoNd5 : (Try.prog.info? 70).map (fun i => (i.zero, i.size, i.bytes)) = some (some (.agg #[.slice none 0 0, .int .u64 0, .bool false, .slice none 0 0, .int .i64 0]), 5, 72) := by kernel_rfl
theorem slc_below {w w' : World} {u : Value} {size m : Nat} {xs : List Value} (h : SlC w u size m xs) (hb : Below w.heap.size w w') : SlC w' u size m xs := by
  obtain ⟨ao, cap, h1, h2, h3, h4, h5⟩ := h
  exact ⟨ao, cap, h1, h2, h3, h4, fun ad ha j y hy => (hb.cell (World.block_lt_of_cell? _ _ (h5 ad ha j y hy))).trans (h5 ad ha j y hy)⟩
theorem c5_one (r : RV) (o1 o2 : Option Addr) (n1 n2 m1 m2 : Nat) (h1 : r.2.1 = .slice o1 n1 m1) (h2 : r.2.2 = .slice o2 n2 m2) : ∀ y ∈ c5 r, y.oneCell' = true := by
  intro y hy
  unfold c5 at hy
  rw [h1, h2] at hy
  simp only [List.mem_cons, List.not_mem_nil, or_false] at hy
  rcases hy with rfl | rfl | rfl | rfl | rfl <;> rfl
theorem own_one {w : World} {rs : List RV} (hg : ∀ r ∈ rs, OwnR w r) : ∀ y ∈ rs.flatMap c5, y.oneCell' = true := by
  intro y hy
  obtain ⟨r, hr, hy⟩ := List.mem_flatMap.1 hy
  obtain ⟨o1, m1, h1, -⟩ := (hg r hr).1.form
  obtain ⟨o2, m2, h2, -⟩ := (hg r hr).2.1.form
  exact c5_one r o1 o2 _ _ m1 m2 h1 h2 y hy
theorem sl_facts {w : World} {lv : Value} {rs : List RV} {pos : Nat} (ho : w.ownsRow 0 70 5 lv rs.length (rs.flatMap c5)) (hp : pos ≤ rs.length) :
    ∃ u1 u2, (∀ wx, (Instr.slice 60 lv none (some (.int .i64 pos)) none).run Try.prog wx = .ok u1 wx) ∧ (∀ wx, (Instr.slice 60 lv (some (.int .i64 pos)) none none).run Try.prog wx = .ok u2 wx) ∧
      SlC w u1 5 pos ((rs.take pos).flatMap c5) ∧ SlC w u2 5 (rs.length - pos) ((rs.drop pos).flatMap c5) := by
  obtain ⟨i0, hi0, hz0, hz1, hz2⟩ := info_parts infoNd5
  have hel : Try.prog.elem 60 = 70 := by kernel_rfl
  have hun : Try.prog.underlying 60 = some (.slice (Try.prog.elem 60)) := by rw [hel]; exact Try.underlying60
  obtain ⟨ao, cap, rfl, h1, h2, h3, h4⟩ := own_form ho
  have hcell : ∀ j y, (rs.flatMap c5)[j]? = some y → ∃ g, ao = some ⟨g, 0, none⟩ ∧ w.cell? ⟨g, j, none⟩ = some y := fun j y hy => by
    obtain ⟨g, q1, -, -, q2⟩ := own_cell ho hy
    exact ⟨g, q1, q2⟩
  refine ⟨sliced ao 0 pos cap 5, sliced ao pos rs.length cap 5, fun wx => ?_, fun wx => ?_, ?_, ?_⟩
  · rw [run_slice_h _ _ _ _ _ hun _ _ (by omega) (by omega), hel, run_sizeOf_info hi0]
    simp [hz1]
  · rw [run_slice_l _ _ _ _ _ hun _ _ (by omega) (by omega), hel, run_sizeOf_info hi0]
    simp [hz1]
  · refine ⟨_, _, rfl, by rw [flat_len c5_len, List.length_take]; congr 1; omega, by unfold maxLen; omega, fun hn => ?_, fun ad ha j y hy => ?_⟩
    · have : ao = none := by
        split at hn
        · exact hn
        · simpa using hn
      have := h3 this
      omega
    · rw [← flat_take c5_len] at hy
      have hy' : (rs.flatMap c5)[j]? = some y := by
        rw [List.getElem?_take] at hy
        split at hy
        · exact hy
        · cases hy
      obtain ⟨g, rfl, hc⟩ := hcell j y hy'
      have : ad = ⟨g, 0, none⟩ := by
        split at ha
        · exact (Option.some.inj ha).symm
        · rw [Option.map_some, Nat.zero_mul, plain_add'] at ha
          exact (Option.some.inj ha).symm
      subst this
      rw [plain_add', Nat.zero_add]
      exact hc
  · refine ⟨_, _, rfl, by rw [flat_len c5_len, List.length_drop], by unfold maxLen; omega, fun hn => ?_, fun ad ha j y hy => ?_⟩
    · have : ao = none := by
        split at hn
        · exact hn
        · simpa using hn
      have := h3 this
      omega
    · rw [← flat_drop c5_len, List.getElem?_drop] at hy
      obtain ⟨g, rfl, hc⟩ := hcell _ y hy
      have hlt := (List.getElem?_eq_some_iff.1 hy).1
      rw [flat_len c5_len] at hlt
      have : ad = ⟨g, pos * 5, none⟩ := by
        split at ha
        · omega
        · rw [Option.map_some, plain_add', Nat.zero_add] at ha
          exact (Option.some.inj ha).symm
      subst this
      rw [plain_add']
      exact hc
theorem ne_typed {w : World} {base n size : Nat} {e e' : TypeId} {v u : Value} {xs : List Value} (ho : w.ownsRow base e size v n xs) (ht : ∀ b, u.ownBlock = some b → ∃ cur, w.heap[b]? = some (.cells cur e' (0, 0))) (hne : e' ≠ e) : u.ownBlock = none ∨ u.ownBlock ≠ v.ownBlock := by
  cases hu : u.ownBlock with
  | none => exact .inl rfl
  | some b =>
    refine .inr fun e9 => ?_
    obtain ⟨cu, h1⟩ := ht b hu
    obtain ⟨-, -, cv, h2⟩ := own_typed ho b e9.symm
    rw [h1] at h2
    cases h2
    exact hne rfl
def RPutQ (S : Nat → Prop) (rb : Nat) (hs : List Int) (P : Pl) (x : En) (w : World) (e : Ending) (w' : World) : Prop :=
  e = .returned (.int .i64 (putCF P x)) ∧ Chg S w w' ∧ RefP (fun k => S k ∨ w.heap.size ≤ k ∧ k < w'.heap.size) w' rb hs (putF hs P x)
theorem rput_same {S : Nat → Prop} {rb : Nat} {hs : List Int} {P : Pl} {x : En} {hv lv : Value} {rs : List RV} {c : Int} {w w' : World} (h : RefS S w rb hs P hv lv rs) (hb : Below w.heap.size w w') (hc : putCF P x = c) (h0 : c ≠ 0) : RPutQ S rb hs P x w (.returned (.int .i64 c)) w' := by
  have q := h.keep (Chg.of_ext hb)
  refine ⟨by rw [hc], .of_ext hb, hv, lv, rs, ⟨q.obj, q.oh, q.ol, ?_, q.el, fun r hr => ⟨fun b hb9 => .inl ((q.sb r hr).1 b hb9), fun b hb9 => .inl ((q.sb r hr).2 b hb9)⟩, fun b hb9 => .inl (q.sh b hb9), fun b hb9 => .inl (q.sl b hb9), .inl q.sr, fun b hb9 => ?_, q.hI, ?_, ?_, ?_⟩⟩
  · unfold putF putN; rw [hc, if_neg h0]; exact q.eq
  · rcases hb9 with h9 | h9
    · exact q.lt b h9
    · exact h9.2
  · unfold putF putN; rw [hc, if_neg h0]; exact q.asc
  · unfold putF putN; rw [hc, if_neg h0]; exact q.each
  · unfold putF putN; rw [hc, if_neg h0]; exact q.len
theorem rput_end {S : Nat → Prop} {rb : Nat} {hs : List Int} {P : Pl} {x : En} {hv lv v7 v1 v2 : Value} {rs : List RV} {w w7 : World} {h pos : Nat} (hR : RefS S w rb hs P hv lv rs) (hb : Below w.heap.size w w7) (hm : mayB x = true) (ht : twiceB (P.map (·.1)) pos x = false) (hpe : posF (P.map (·.1)) x.1 x.2.1 = pos)
    (hh : hgtI hs P.length = (h : Int)) (h1 : 1 ≤ h ∧ h ≤ 12) (hu : U64 x.2.1) (hn : P.length < 1000) (k1 : OwnS w7 w.heap.size 5 v1 x.1) (k2 : OwnS w7 w.heap.size 5 v2 x.2.2.2)
    (ho : w7.ownsRow w.heap.size 70 5 v7 (pos + 1 + (P.length - pos)) (((rs.take pos).flatMap c5 ++ c5 ((x, h), v1, v2)) ++ (rs.drop pos).flatMap c5)) : RPutQ S rb hs P x w (.returned (.int .i64 0)) (w7.setCell ⟨rb, 1, none⟩ v7) := by
  have hpos := pos_of x.1 x.2.1 _ hR.asc
  rw [hpe] at hpos
  have hc : putCF P x = 0 := by unfold putCF putC; rw [hpe, if_neg (by rw [hm]; decide), if_neg (by rw [ht]; decide)]
  have hP : putF hs P x = P.take pos ++ (x, h) :: P.drop pos := by unfold putF putN; rw [hc, if_pos rfl, hpe, hh]; rfl
  have q := hR.keep (Chg.of_ext hb)
  have hrs : rs.length = P.length := by rw [← hR.eq, List.length_map]
  have hpl : pos ≤ rs.length := by have := hpos.1; rw [List.length_map] at this; omega
  have rl : rb < w.heap.size := hR.lt rb hR.sr
  have c : Chg (fun b => b = rb) w7 (w7.setCell ⟨rb, 1, none⟩ v7) := (Chg.refl (fun b => b = rb) w7).set (p := ⟨rb, 1, none⟩) (fun _ => rfl) v7
  have hob : (w7.setCell ⟨rb, 1, none⟩ v7).heap[rb]? = some (.cells #[hv, v7] 62 (0, 0)) := by
    rw [heap_setCell_same w7 rb 1 _ _ _ q.obj]
    rfl
  have tne : ∀ b, (∃ cur e, w7.heap[b]? = some (.cells cur e (0, 0)) ∧ e ≠ 62) → ¬ b = rb := fun b ⟨cur, e, hc9, hne⟩ he => by
    rw [he, q.obj] at hc9
    cases hc9
    exact hne rfl
  have own7 := c.own ho (fun b hb9 e => by have := (ho.lt b hb9).1; omega)
  refine ⟨by rw [hc], (Chg.of_ext hb).trans (c.mono fun b _ e => by rw [e]; exact hR.sr), hv, v7, rs.take pos ++ ((x, h), v1, v2) :: rs.drop pos, ⟨hob, c.own q.oh (fun b hb9 => tne b ?_), ?_, ?_, fun r hr => ?_, fun r hr => ?_, fun b hb9 => .inl (hR.sh b hb9), fun b hb9 => ?_, .inl hR.sr, fun b hb9 => ?_, hR.hI, ?_, ?_, ?_⟩⟩
  · obtain ⟨-, -, cu, hcu⟩ := own_typed q.oh b hb9
    exact ⟨cu, _, hcu, by decide⟩
  · have e1 : (rs.take pos ++ ((x, h), v1, v2) :: rs.drop pos).length = pos + 1 + (P.length - pos) := by rw [← hrs]; simp only [List.length_append, List.length_take, List.length_cons, List.length_drop]; omega
    have e2 : (rs.take pos ++ ((x, h), v1, v2) :: rs.drop pos).flatMap c5 = ((rs.take pos).flatMap c5 ++ c5 ((x, h), v1, v2)) ++ (rs.drop pos).flatMap c5 := by rw [List.flatMap_append, List.flatMap_cons, List.append_assoc]
    rw [e1, e2]
    exact own_mono own7 (Nat.zero_le _)
  · rw [hP, List.map_append, List.map_take, List.map_cons, List.map_drop, hR.eq]
  · have old : ∀ r ∈ rs, OwnR (w7.setCell ⟨rb, 1, none⟩ v7) r := fun r hr => ⟨c.ownS (q.el r hr).1 (fun b hb9 => tne b (by obtain ⟨cu, hcu⟩ := (q.el r hr).1.typed b hb9; exact ⟨cu, _, hcu, by decide⟩)), c.ownS (q.el r hr).2.1 (fun b hb9 => tne b (by obtain ⟨cu, hcu⟩ := (q.el r hr).2.1.typed b hb9; exact ⟨cu, _, hcu, by decide⟩)), (q.el r hr).2.2⟩
    rcases List.mem_append.1 hr with hr | hr
    · exact old r (List.mem_of_mem_take hr)
    · rcases List.mem_cons.1 hr with rfl | hr
      · exact ⟨(c.ownS k1 (fun b hb9 => tne b (by obtain ⟨cu, hcu⟩ := k1.typed b hb9; exact ⟨cu, _, hcu, by decide⟩))).mono (Nat.zero_le _), (c.ownS k2 (fun b hb9 => tne b (by obtain ⟨cu, hcu⟩ := k2.typed b hb9; exact ⟨cu, _, hcu, by decide⟩))).mono (Nat.zero_le _), hu⟩
      · exact old r (List.mem_of_mem_drop hr)
  · have old : ∀ r ∈ rs, InR (fun k => S k ∨ w.heap.size ≤ k ∧ k < (w7.setCell ⟨rb, 1, none⟩ v7).heap.size) r := fun r hr => ⟨fun b hb9 => .inl ((hR.sb r hr).1 b hb9), fun b hb9 => .inl ((hR.sb r hr).2 b hb9)⟩
    rcases List.mem_append.1 hr with hr | hr
    · exact old r (List.mem_of_mem_take hr)
    · rcases List.mem_cons.1 hr with rfl | hr
      · exact ⟨fun b hb9 => .inr (by have := k1.lt b hb9; simpa using this), fun b hb9 => .inr (by have := k2.lt b hb9; simpa using this)⟩
      · exact old r (List.mem_of_mem_drop hr)
  · exact .inr (by have := ho.lt b hb9; simpa using this)
  · rcases hb9 with h9 | h9
    · have := hR.lt b h9
      have := hb.size
      simp
      omega
    · exact h9.2
  · rw [hP, List.map_append, List.map_take, List.map_cons, List.map_drop]
    refine asc_ins hR.asc hpos.1 hpos.2 (fun y hy => ?_)
    intro hyx
    unfold twiceB at ht
    rw [hy] at ht
    simp [hyx.1, hyx.2] at ht
  · rw [hP]
    intro p hp
    rcases List.mem_append.1 hp with hp | hp
    · exact hR.each p (List.mem_of_mem_take hp)
    · rcases List.mem_cons.1 hp with rfl | hp
      · exact ⟨hm, h1⟩
      · exact hR.each p (List.mem_of_mem_drop hp)
  · have := putF_len hs P x
    omega
set_option maxRecDepth 100000 in
set_option maxHeartbeats 8000000 in
theorem rput_any {S : Nat → Prop} {w : World} {rb : Nat} {hs : List Int} {P : Pl} {hv lv : Value} {rs : List RV} (kv vv : Value) (x : En) (h : RefS S w rb hs P hv lv rs) (hk : IsB w kv x.1) (hvv : IsB w vv x.2.2.2) (hu : U64 x.2.1) (hn : P.length < 1000) :
    Calls Try.prog 22 #[.pointer (some ⟨rb, 0, none⟩), .agg #[kv, .int .u64 x.2.1, .bool x.2.2.1, vv]] w (RPutQ S rb hs P x w) := by
  obtain ⟨i0, hi0, hz0, hz1, hz2⟩ := info_parts infoNd5
  have HI := Lib.hid hi0; have HZ0 := Lib.hid hz0; have HZ1 := Lib.hid hz1; have HZ2 := Lib.hid hz2
  obtain ⟨ho, hc, hhv, -, -, -⟩ := h.r.ih.form
  subst hhv
  obtain ⟨ko, kc, rfl, -, -, -⟩ := hk.form
  obtain ⟨vo, vc, rfl, -, -, -⟩ := hvv.form
  have H := Lib.hid h
  have HR := Lib.hid h.r
  have HK := Lib.hid hk
  have HV := Lib.hid hvv
  have HU := Lib.hid hu
  have hb0 := bel_alloc (Below.refl _ w) (.cells #[.slice ko x.1.length kc, .int .u64 x.2.1, .bool x.2.2.1, .slice vo x.2.2.2.length vc] 32)
  have HM := Lib.hid (may_any _ _ x _ (hk.below hb0) (hvv.below hb0))
  have HHS := Lib.hid h.r.ih.max
  have hrs : rs.length = P.length := by rw [← h.eq, List.length_map]
  have HRS := Lib.hid hrs
  have c0 := h.r.c0
  have c1 := h.r.c1
  have zr := h.r.lt
  clear hi0 hz0 hz1 hz2 h hk hvv hu hb0 hrs
  go_enter Try.func22, Try.ntmps22
  go_wp2_with fail
  refine HM.out.mono ?_
  rintro e w1 ⟨rfl, hb1⟩
  have HB1 : Hid (Below w.heap.size w w1) := Lib.hid (bel_call (bel_alloc (Below.refl _ w) _) hb1)
  have e0 : w1.cell? ⟨w.heap.size, 0, none⟩ = some (.slice ko x.1.length kc) := (hb1.cell (p := ⟨w.heap.size, 0, none⟩) (by simp)).trans (by go_simp)
  have e1 : w1.cell? ⟨w.heap.size, 1, none⟩ = some (.int .u64 x.2.1) := (hb1.cell (p := ⟨w.heap.size, 1, none⟩) (by simp)).trans (by go_simp)
  have e2 : w1.cell? ⟨w.heap.size, 2, none⟩ = some (.bool x.2.2.1) := (hb1.cell (p := ⟨w.heap.size, 2, none⟩) (by simp)).trans (by go_simp)
  have e3 : w1.cell? ⟨w.heap.size, 3, none⟩ = some (.slice vo x.2.2.2.length vc) := (hb1.cell (p := ⟨w.heap.size, 3, none⟩) (by simp)).trans (by go_simp)
  have ze : w.heap.size < w1.heap.size := Nat.lt_of_lt_of_le (by simp) hb1.size
  clear hb1 HM
  cases hmay : mayB x with
  | false =>
    have HC : Hid (putCF P x = 50) := Lib.hid (by unfold putCF putC; rw [if_pos hmay])
    clear hmay c0 c1 zr
    go_wp2_with fail
    go_ret
    exact rput_same H.out HB1.out HC.out (by decide)
  | true =>
    have HMAY := Lib.hid hmay
    have HP := Lib.hid (rplace_any _ _ x (HR.out.below HB1.out) (HK.out.below HB1.out) (HV.out.below HB1.out))
    obtain ⟨pos, hpe⟩ : ∃ pos, posF (P.map (·.1)) x.1 x.2.1 = pos := ⟨_, rfl⟩
    have hpl := (pos_of x.1 x.2.1 _ H.out.asc).1
    rw [List.length_map] at hpl
    rw [hpe] at HP hpl
    have HPE := Lib.hid hpe
    clear hmay hpe c0 c1 zr
    go_wp2_with fail
    refine HP.out.mono ?_
    unfold RPlP
    rintro e w2 ⟨rfl, hb2⟩
    have HB2 : Hid (Below w.heap.size w w2) := Lib.hid (bel_call HB1.out hb2)
    have d0 : w2.cell? ⟨w.heap.size, 0, none⟩ = some (.slice ko x.1.length kc) := (hb2.cell (p := ⟨w.heap.size, 0, none⟩) ze).trans e0
    have d1 : w2.cell? ⟨w.heap.size, 1, none⟩ = some (.int .u64 x.2.1) := (hb2.cell (p := ⟨w.heap.size, 1, none⟩) ze).trans e1
    have d2 : w2.cell? ⟨w.heap.size, 2, none⟩ = some (.bool x.2.2.1) := (hb2.cell (p := ⟨w.heap.size, 2, none⟩) ze).trans e2
    have d3 : w2.cell? ⟨w.heap.size, 3, none⟩ = some (.slice vo x.2.2.2.length vc) := (hb2.cell (p := ⟨w.heap.size, 3, none⟩) ze).trans e3
    have ze2 := Nat.lt_of_lt_of_le ze hb2.size
    clear e0 e1 e2 e3 ze hb2 HP
    cases htw : twiceB (P.map (·.1)) pos x with
    | true =>
      have HC : Hid (putCF P x = 51) := Lib.hid (by unfold putCF putC; rw [HPE.out, if_neg (by rw [HMAY.out]; decide), if_pos htw])
      clear htw
      go_wp2_with fail
      go_ret
      exact rput_same H.out HB2.out HC.out (by decide)
    | false =>
      have HTW := Lib.hid htw
      have c0 := (HR.out.below HB2.out).c0
      have c1 := (HR.out.below HB2.out).c1
      have zr := (HR.out.below HB2.out).lt
      clear htw
      go_upto_if 27 with fail
      go_cut [8] (fun s8 wx => s8 = .int .i64 (hgtI hs P.length) ∧ Below w2.heap.size w2 wx)
      case first =>
        obtain ⟨lo, lc, rfl, -, -, -⟩ := HR.out.il.form
        by_cases hs0 : hs = []
        · have HE : Hid (hgtI hs P.length = 1) := Lib.hid (if_pos hs0)
          have q1 : ¬ (0 : Int) < hs.length := by rw [hs0]; simp
          clear hs0
          go_wp2_with fail
          all_goals
            go_meet
            exact ⟨by rw [HE.out], Below.refl _ _⟩
        · have q1 : (0 : Int) < hs.length := by have := List.length_pos_iff.2 hs0; omega
          have hkl : P.length % hs.length < hs.length := Nat.mod_lt _ (List.length_pos_iff.2 hs0)
          have HE : Hid (hgtI hs P.length = min (max (hs.getD (P.length % hs.length) 0) 1) 12) := Lib.hid (if_neg hs0)
          have hr : Int.tmod (P.length : Int) (hs.length : Int) = ((P.length % hs.length : Nat) : Int) := rfl
          generalize P.length % hs.length = k at *
          have hcell : (hs.map (Value.int .i64))[k]? = some (.int .i64 (hs.getD k 0)) := by
            rw [List.getElem?_map, List.getD_eq_getElem?_getD, List.getElem?_eq_getElem hkl]; rfl
          obtain ⟨g, hao, hbg, hgl, hcell'⟩ := own_cell (H.out.keep (Chg.of_ext HB2.out)).oh hcell
          subst hao
          have q2 : (k : Int) < hs.length := by omega
          have q3 : (0 : Int) ≤ k := by omega
          generalize hs.getD k 0 = u at *
          clear hcell hs0
          go_wp2_with fail
          go_quiet (fail)
          go_wp2_with fail
          all_goals
            go_meet
            refine ⟨?_, below_drewN (Below.refl _ _) _⟩
            rw [HE.out]
            congr 1
            omega
      case rest =>
        obtain ⟨rfl, hbc⟩ := hcut
        have HB3 : Hid (Below w.heap.size w wc) := Lib.hid (bel_call HB2.out hbc)
        have e0 : wc.cell? ⟨w.heap.size, 0, none⟩ = some (.slice ko x.1.length kc) := (hbc.cell (p := ⟨w.heap.size, 0, none⟩) ze2).trans d0
        have e1 : wc.cell? ⟨w.heap.size, 1, none⟩ = some (.int .u64 x.2.1) := (hbc.cell (p := ⟨w.heap.size, 1, none⟩) ze2).trans d1
        have e2 : wc.cell? ⟨w.heap.size, 2, none⟩ = some (.bool x.2.2.1) := (hbc.cell (p := ⟨w.heap.size, 2, none⟩) ze2).trans d2
        have e3 : wc.cell? ⟨w.heap.size, 3, none⟩ = some (.slice vo x.2.2.2.length vc) := (hbc.cell (p := ⟨w.heap.size, 3, none⟩) ze2).trans d3
        have ze3 := Nat.lt_of_lt_of_le ze2 hbc.size
        have r1 := (HR.out.below HB3.out).c1
        have zr3 := (HR.out.below HB3.out).lt
        obtain ⟨h, hh, hh1, hh2⟩ : ∃ h : Nat, hgtI hs P.length = (h : Int) ∧ 1 ≤ h ∧ h ≤ 12 := by
          unfold hgtI
          split
          · exact ⟨1, rfl, by omega, by omega⟩
          · exact ⟨(min (max (hs.getD (P.length % hs.length) 0) 1) 12).toNat, by omega, by omega, by omega⟩
        have HH := Lib.hid hh
        rw [hh]
        have HSH : Hid (Short x) := Lib.hid (may_short HMAY.out)
        have HO := Lib.hid (copy_any _ _ x wc (HK.out.below HB3.out) (HV.out.below HB3.out) HSH.out)
        clear hbc hh d0 d1 d2 d3 ze2 c0 c1 zr
        go_wp2_with fail
        refine HO.out.mono ?_
        unfold OwnP
        rintro e w3 ⟨v1, v2, rfl, h1, h2, hb3⟩
        have z9 := HB3.out.size
        have HB4 : Hid (Below w.heap.size w w3) := Lib.hid (bel_call HB3.out hb3)
        have H1 := Lib.hid (h1.mono z9)
        have H2 := Lib.hid (h2.mono z9)
        obtain ⟨fo1, fc1, rfl, -, -, -, -⟩ := h1.form
        obtain ⟨to1, tc1, rfl, -, -, -, -⟩ := h2.form
        have r2 := (hb3.cell (p := ⟨rb, 1, none⟩) zr3).trans r1
        have zr4 := Nat.lt_of_lt_of_le zr3 hb3.size
        have hpr : pos ≤ rs.length := by have := HRS.out; omega
        obtain ⟨u1, u2, qs1, qs2, s1, s2⟩ := sl_facts H.out.ol hpr
        rw [HRS.out] at s2
        obtain ⟨a1, p1, eu1, -⟩ := id s1
        obtain ⟨a2, p2, eu2, -⟩ := id s2
        subst eu1 eu2
        have S1 := Lib.hid s1
        have S2 := Lib.hid s2
        have HB5 : Hid (Below w.heap.size w (w3.alloc (.cells #[.slice fo1 x.1.length fc1, .int .u64 x.2.1, .bool x.2.2.1, .slice to1 x.2.2.2.length tc1] 32))) := Lib.hid (bel_alloc HB4.out _)
        clear h1 h2 hb3 e0 e1 e2 e3 ze3 r1 zr3 s1 s2 HO
        have T1 := Lib.hid (slc_below S1.out HB5.out)
        have T2 : Hid (∀ y ∈ (rs.take pos).flatMap c5, y.oneCell' = true) := Lib.hid (own_one fun r hr => H.out.el r (List.mem_of_mem_take hr))
        have T3 : Hid (∀ y ∈ (rs.drop pos).flatMap c5, y.oneCell' = true) := Lib.hid (own_one fun r hr => H.out.el r (List.mem_of_mem_drop hr))
        have T4 : Hid (0 + pos ≤ maxLen) := Lib.hid (by unfold maxLen; omega)
        have T5 : Hid ((0 + pos) * 72 ≤ 140737488355328) := Lib.hid (by omega)
        have T6 : Hid (pos + 1 + (P.length - pos) ≤ maxLen) := Lib.hid (by unfold maxLen; omega)
        have T7 : Hid ((pos + 1 + (P.length - pos)) * 72 ≤ 140737488355328) := Lib.hid (by omega)
        have T8 := Lib.hid HB5.out.size
        go_wp2_with (at_builtin; first
          | (refine wpList_append_slc (w := w3.alloc (.cells #[.slice fo1 x.1.length fc1, .int .u64 x.2.1, .bool x.2.2.1, .slice to1 x.2.2.2.length tc1] 32)) (base := w.heap.size) (n := 0) (xs := []) (.tmp 49) (.tmp 55) _ rfl rfl i0 _ 72 Try.underlying60 HI.out HZ0.out HZ1.out HZ2.out rfl (by decide) _ pos ((rs.take pos).flatMap c5) rfl rfl (World.ownsRow_nil _ _ _ _) T1.out T2.out T4.out T5.out T8.out ?_; intro v5 w5 ho5 hg5; have HO5 : Hid (w5.ownsRow w.heap.size 70 5 v5 pos ((rs.take pos).flatMap c5)) := Lib.hid (by simpa using ho5); have gb5 : Below (w3.alloc (.cells #[.slice fo1 x.1.length fc1, .int .u64 x.2.1, .bool x.2.2.1, .slice to1 x.2.2.2.length tc1] 32)).heap.size (w3.alloc (.cells #[.slice fo1 x.1.length fc1, .int .u64 x.2.1, .bool x.2.2.1, .slice to1 x.2.2.2.length tc1] 32)) w5 := below_own hg5 (Nat.le_refl _) (fun k hk => by cases hk); have HB6 : Hid (Below w.heap.size w w5) := Lib.hid (bel_call HB5.out gb5); have K1 := Lib.hid (H1.out.below (bel_call (bel_alloc (Below.refl _ w3) _) gb5)); have K2 := Lib.hid (H2.out.below (bel_call (bel_alloc (Below.refl _ w3) _) gb5)); have HBX : Hid (Below w3.heap.size w3 w5) := Lib.hid (bel_call (bel_alloc (Below.refl _ w3) _) gb5); have f0 : w5.cell? ⟨w3.heap.size, 0, none⟩ = some (.slice fo1 x.1.length fc1) := (gb5.cell (p := ⟨w3.heap.size, 0, none⟩) (by simp)).trans (by go_simp); have f1 : w5.cell? ⟨w3.heap.size, 1, none⟩ = some (.int .u64 x.2.1) := (gb5.cell (p := ⟨w3.heap.size, 1, none⟩) (by simp)).trans (by go_simp); have f2 : w5.cell? ⟨w3.heap.size, 2, none⟩ = some (.bool x.2.2.1) := (gb5.cell (p := ⟨w3.heap.size, 2, none⟩) (by simp)).trans (by go_simp); have f3 : w5.cell? ⟨w3.heap.size, 3, none⟩ = some (.slice to1 x.2.2.2.length tc1) := (gb5.cell (p := ⟨w3.heap.size, 3, none⟩) (by simp)).trans (by go_simp); have zf : w3.heap.size < w5.heap.size := Nat.lt_of_lt_of_le (by simp) gb5.size; have r3 := (HR.out.below HB6.out).c1; have zr5 := (HR.out.below HB6.out).lt; obtain ⟨vo5, vc5, rfl, -, -, -, -⟩ := own_form HO5.out; clear ho5 hg5 gb5 r2 zr4 qs1)
          | (refine wpList_append_cells (w := w5) (base := w.heap.size) (size := 5) (n := pos) (xs := (rs.take pos).flatMap c5) (.tmp 57) (.tmp 61) _ rfl rfl i0 _ 72 Try.underlying60 HI.out HZ0.out HZ1.out HZ2.out rfl (by decide) [.slice fo1 x.1.length fc1, .int .u64 x.2.1, .bool x.2.2.1, .slice to1 x.2.2.2.length tc1, .int .i64 h] rfl (by intro u hu; simp only [List.mem_cons, List.not_mem_nil, or_false] at hu; rcases hu with rfl | rfl | rfl | rfl | rfl <;> rfl) rfl rfl HO5.out (by omega) (by omega) HB6.out.size ?_; intro v6 w6 ho6 hg6 hk6; have HO6 := Lib.hid ho6; have HB7 : Hid (Below w.heap.size w w6) := Lib.hid (bel_own HB6.out hg6 HO5.out); replace K1 := Lib.hid (K1.out.kept hg6 (ne_typed HO5.out K1.out.typed (by decide))); replace K2 := Lib.hid (K2.out.kept hg6 (ne_typed HO5.out K2.out.typed (by decide))); have r4 := (HR.out.below HB7.out).c1; have zr6 := (HR.out.below HB7.out).lt; obtain ⟨vo6, vc6, rfl, -, -, -, -⟩ := own_form HO6.out; clear ho6 hg6 hk6 r3 zr5 f0 f1 f2 f3 zf)
          | (refine wpList_append_slc (w := w6) (base := w.heap.size) (n := pos + 1) (.tmp 64) (.tmp 70) _ rfl rfl i0 _ 72 Try.underlying60 HI.out HZ0.out HZ1.out HZ2.out rfl (by decide) _ (P.length - pos) ((rs.drop pos).flatMap c5) rfl rfl HO6.out (slc_below S2.out HB7.out) T3.out T6.out T7.out HB7.out.size ?_; intro v7 w7 ho7 hg7; have HO7 := Lib.hid ho7; have HB8 : Hid (Below w.heap.size w w7) := Lib.hid (bel_own HB7.out hg7 HO6.out); replace K1 := Lib.hid (K1.out.kept hg7 (ne_typed HO6.out K1.out.typed (by decide))); replace K2 := Lib.hid (K2.out.kept hg7 (ne_typed HO6.out K2.out.typed (by decide))); have hob7 := (H.out.keep (Chg.of_ext HB8.out)).obj; have r5 : w7.cell? ⟨rb, 1, none⟩ = some lv := (by rw [cell_of_row _ _ _ _ _ _ hob7]; rfl); have rf5 : w7.frozen? ⟨rb, 1, none⟩ = false := frozen_of_row _ _ _ _ _ hob7; have zr7 := (HR.out.below HB8.out).lt; obtain ⟨vo7, vc7, rfl, -, -, -, -⟩ := own_form HO7.out; clear ho7 hg7 hob7 r4 zr6))
        go_ret
        exact rput_end H.out HB8.out HMAY.out HTW.out HPE.out HH.out ⟨hh1, hh2⟩ HU.out hn (K1.out) (K2.out) HO7.out
end Mt
end Go.Proofs.Ytgkgfghmpimaoaa
