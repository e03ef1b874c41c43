/- Ranges that came in. rangemeta: what a table keeps when it is split; scripts that came in. -/
import Derived.Test.YtbeniogffhihlaaRm
import Derived.Test.YtbeniogffhihlaaRead
import Derived.Test.YtbeniogffhihlaaRmRefP
set_option linter.unusedVariables false
set_option linter.unusedSimpArgs false
namespace Go.Proofs.Ytbeniogffhihlaa
open Go.RowKit
namespace Rm
abbrev rgsTy : Ty := (.sl 64 (.st (.fcons 0 (.int .i64) (.fcons 1 (.st (.fcons 0 (.sl 1 (.int .u8)) (.fcons 1 (.sl 1 (.int .u8)) .fnil))) (.fcons 3 (.int .i64) .fnil)))))
theorem rgsMt : Mt Try.prog rgsTy (.inl 29) := ⟨_, Try.underlying29, by kernel_rfl, ⟨by decide, by kernel_rfl⟩, ⟨_, Try.underlying39, by kernel_rfl, ⟨_, rfl, rfl, ⟨Try.underlying3, by kernel_rfl⟩, ⟨_, rfl, rfl, ⟨_, Try.underlying25, by kernel_rfl, ⟨_, rfl, rfl, ⟨_, Try.underlying23, by kernel_rfl, ⟨by decide, by kernel_rfl⟩, ⟨Try.underlying5, by kernel_rfl⟩⟩, ⟨_, rfl, rfl, ⟨_, Try.underlying23, by kernel_rfl, ⟨by decide, by kernel_rfl⟩, ⟨Try.underlying5, by kernel_rfl⟩⟩, trivial⟩⟩⟩, ⟨_, rfl, rfl, ⟨Try.underlying3, by kernel_rfl⟩, trivial⟩⟩⟩⟩⟩
abbrev RgD : Type := Int × (List Int × List Int × Unit) × Int × Unit
def toR (x : RgD) : RangeD := (x.1, x.2.1.1, x.2.1.2.1, x.2.2.1)
theorem i64_of_wf {n : Int} (h : (Lit.int .i64 n).wf = true) : I64 n := by
  unfold I64
  simpa [Lit.wf, IntKind.min, IntKind.max, IntKind.signed, IntKind.bits] using h
theorem rgs_of_rd {w : World} {v : Value} {l : List RgD} (h : Rd w rgsTy [v] l) : IsRgs w v (l.map toR) := by
  obtain ⟨ao, cap, h1, h2, h3, h4, h5⟩ := Rd.sl' h
  simp only [List.cons.injEq, and_true] at h1
  refine ⟨ao, cap, by rw [List.length_map]; exact h1, by rw [List.length_map]; exact h2, h3, fun hn => ⟨by rw [List.eq_nil_of_length_eq_zero (h4 hn).1]; rfl, (h4 hn).2⟩, fun i x hx => ?_⟩
  rw [List.getElem?_map, Option.map_eq_some_iff] at hx
  obtain ⟨y, hy, rfl⟩ := hx
  obtain ⟨b, o, cs, k1, k2, k3, k4, k5⟩ := h5 i y hy
  have k3' : cs.length = 4 := k3
  match cs, k3' with
  | [c0, c1, c2, c3], _ =>
    obtain ⟨_, q⟩ := Rd.st' k5
    obtain ⟨q0, q⟩ := Rd.fc q
    obtain ⟨q1, q⟩ := Rd.fc q
    obtain ⟨q2, _⟩ := Rd.fc q
    obtain ⟨_, p⟩ := Rd.st' q1
    obtain ⟨p0, p⟩ := Rd.fc p
    obtain ⟨p1, _⟩ := Rd.fc p
    obtain ⟨e0, w0⟩ := Rd.int' q0
    obtain ⟨e2, w2⟩ := Rd.int' q2
    have e0' : [c0] = [.int .i64 y.1] := e0
    have e2' : [c3] = [.int .i64 y.2.2.1] := e2
    cases e0'
    cases e2'
    exact ⟨b, o, _, k1, k2, rfl, fun j u hu => k4 j u hu, c1, c2, rfl, isB_of_rd p0, isB_of_rd p1, i64_of_wf w0, i64_of_wf w2⟩
theorem rgs_fits {N : Nat} {l : List RgD} (h : Fits N rgsTy l) : ∀ x ∈ l.map toR, x.2.1.length ≤ N ∧ x.2.2.1.length ≤ N := by
  obtain ⟨_, h2⟩ := Fits.sl' h
  intro x hx
  obtain ⟨y, hy, rfl⟩ := List.mem_map.1 hx
  obtain ⟨i, hi⟩ := List.getElem?_of_mem hy
  obtain ⟨-, k⟩ := Fits.fc (Fits.st' (h2 i y hi))
  obtain ⟨k1, -⟩ := Fits.fc k
  obtain ⟨a1, k⟩ := Fits.fc (Fits.st' k1)
  obtain ⟨a2, -⟩ := Fits.fc k
  have m1 := (Fits.sl' a1).1
  have m2 := (Fits.sl' a2).1
  simp only [Nat.mul_one] at m1 m2
  exact ⟨m1, m2⟩
theorem rgs_open {w : World} {v : Value} {l : List RgD} (h : Rd w rgsTy [v] l) (hf : Fits reachBytes rgsTy l) : ∃ l : List RangeD, IsRgs w v l ∧ ∀ x ∈ l, x.2.1.length ≤ 140737488355328 ∧ x.2.2.1.length ≤ 140737488355328 :=
  ⟨l.map toR, rgs_of_rd h, fun x hx => by have := rgs_fits hf x hx; simp only [reachBytes] at this; omega⟩
end Rm
end Go.Proofs.Ytbeniogffhihlaa
namespace Go.Proofs.Ytbeniogffhihlaa
open Go.RowKit
namespace Rm
def Good (l : List RangeD) : Prop := l ≠ [] ∧ l.length ≤ 32 ∧ (l.map (·.1)).Nodup ∧ ∀ x ∈ l, Fair x
theorem good_new : Good [(1, [], [], 1)] := ⟨by simp, by simp, by simp, fun x hx => by rw [List.mem_singleton] at hx; subst hx; exact ⟨by simp, by simp, by decide, by decide⟩⟩
theorem good_big {l : List RangeD} (h : Good l) : ∀ x ∈ l, x.2.1.length ≤ 140737488355328 ∧ x.2.2.1.length ≤ 140737488355328 := fun x hx => by
  obtain ⟨h1, h2, -⟩ := h.2.2.2 x hx
  omega
/-- what a split that is taken has been shown to be -/
theorem splitE_zero {l : List RangeD} {id other : Int} {key : List Int} (h : splitE l id other key = 0) :
    ∃ (k : Nat) (r : RangeD), idxF (fun x => x.1 == id) l = (k : Int) ∧ k < l.length ∧ l[k]? = some r ∧ r.1 = id ∧ splitR l id other key = splitL l k r id other key ∧ key.length ≤ 110 ∧ holdsB (r.2.1, r.2.2.1) key = true ∧ key ≠ r.2.1 ∧
      1 ≤ other ∧ other ≤ 255 ∧ (∀ x ∈ l, x.1 ≠ other) ∧ l.length < 32 ∧ r.2.2.2 ≠ 9007199254740991 := by
  rcases idxF_cases (fun x => x.1 == id) l with ⟨h1, -⟩ | ⟨k, r, h1, h2, h3, h4⟩
  · unfold splitE at h
    rw [h1] at h
    simp at h
  · have hR : splitR l id other key = splitL l k r id other key := by
      unfold splitR
      rw [h, if_pos rfl, h1]
      congr 1
      rw [Int.toNat_natCast, List.getD_eq_getElem?_getD, h3]; rfl
    rw [splitE_at h1 h3] at h
    by_cases a1 : 110 < key.length
    · rw [if_pos a1] at h; cases h
    rw [if_neg a1] at h
    by_cases a2 : holdsB (r.2.1, r.2.2.1) key = false
    · rw [if_pos a2] at h; cases h
    rw [if_neg a2] at h
    by_cases a3 : key = r.2.1
    · rw [if_pos a3] at h; cases h
    rw [if_neg a3] at h
    by_cases a4 : other < 1
    · rw [if_pos a4] at h; cases h
    rw [if_neg a4] at h
    by_cases a5 : 255 < other
    · rw [if_pos a5] at h; cases h
    rw [if_neg a5] at h
    by_cases a6 : 0 ≤ idxF (fun x => x.1 == other) l
    · rw [if_pos a6] at h; cases h
    rw [if_neg a6] at h
    by_cases a7 : 32 ≤ l.length
    · rw [if_pos a7] at h; cases h
    rw [if_neg a7] at h
    by_cases a8 : r.2.2.2 = 9007199254740991
    · rw [if_pos a8] at h; cases h
    refine ⟨k, r, h1, h2, h3, beq_iff_eq.1 h4, hR, by omega, by simpa using a2, a3, by omega, by omega, ?_, by omega, a8⟩
    rcases idxF_cases (fun x => x.1 == other) l with ⟨-, g2⟩ | ⟨j, y, g1, -⟩
    · exact fun x hx => beq_eq_false_iff_ne.1 (g2 x hx)
    · rw [g1] at a6; omega
theorem splitL_parts {l : List RangeD} {k : Nat} {r : RangeD} (h : l[k]? = some r) : l = l.take k ++ [r] ++ l.drop (k + 1) := by
  obtain ⟨hk, rfl⟩ := List.getElem?_eq_some_iff.1 h
  rw [List.append_assoc, List.singleton_append, List.getElem_cons_drop, List.take_append_drop]
theorem good_split {l : List RangeD} (h : Good l) (id other : Int) (key : List Int) : Good (splitR l id other key) := by
  by_cases he : splitE l id other key = 0
  · obtain ⟨k, r, h1, h2, h3, h4, h5, h6, h7, h8, h9, h10, h11, h12, h13⟩ := splitE_zero he
    rw [h5]
    have hp := splitL_parts h3
    obtain ⟨g1, g2, g3, g4⟩ := h
    have hr := g4 r (List.mem_of_getElem? h3)
    refine ⟨by unfold splitL; simp, ?_, ?_, ?_⟩
    · unfold splitL
      simp only [List.length_append, List.length_take, List.length_drop, List.length_cons, List.length_nil]
      omega
    · have hn : ((l.take k).map (·.1) ++ [r.1] ++ (l.drop (k + 1)).map (·.1)).Nodup := by
        have := g3
        rw [hp] at this
        simpa [List.map_append] using this
      have hot : ∀ x ∈ (l.take k).map (·.1) ++ [r.1] ++ (l.drop (k + 1)).map (·.1), x ≠ other := by
        intro x hx
        have : x ∈ l.map (·.1) := by
          rw [hp]
          simpa [List.map_append] using hx
        obtain ⟨y, hy, rfl⟩ := List.mem_map.1 this
        exact h11 y hy
      unfold splitL
      simp only [List.map_append, List.map_cons, List.map_nil]
      rw [← h4]
      generalize (l.take k).map (·.1) = A at *
      generalize (l.drop (k + 1)).map (·.1) = B at *
      have e1 : A ++ [r.1, other] ++ B = A ++ ([r.1] ++ ([other] ++ B)) := by simp
      rw [e1]
      rw [List.append_assoc] at hn hot
      rw [List.nodup_append] at hn ⊢
      obtain ⟨n1, n2, n3⟩ := hn
      refine ⟨n1, ?_, ?_⟩
      · rw [List.nodup_append] at n2 ⊢
        obtain ⟨m1, m2, m3⟩ := n2
        refine ⟨m1, ?_, ?_⟩
        · rw [List.singleton_append, List.nodup_cons]
          exact ⟨fun hm => hot other (by simp [hm]) rfl, m2⟩
        · intro a ha b hb
          rcases List.mem_append.1 hb with hb | hb
          · rw [List.mem_singleton] at hb; subst hb
            exact hot a (by simp at ha ⊢; simp [ha])
          · exact m3 a ha b hb
      · intro a ha b hb
        rcases List.mem_append.1 hb with hb | hb
        · exact n3 a ha b (List.mem_append_left _ hb)
        · rcases List.mem_append.1 hb with hb | hb
          · rw [List.mem_singleton] at hb; subst hb
            exact hot a (by simp [ha])
          · exact n3 a ha b (List.mem_append_right _ hb)
    · intro x hx
      unfold splitL at hx
      obtain ⟨f1, f2, f3, f4⟩ := hr
      rcases List.mem_append.1 hx with hx | hx
      · rcases List.mem_append.1 hx with hx | hx
        · exact g4 x (List.mem_of_mem_take hx)
        · simp only [List.mem_cons, List.not_mem_nil, or_false] at hx
          rcases hx with rfl | rfl
          · exact ⟨f1, h6, by show 1 ≤ r.2.2.2 + 1; omega, by show r.2.2.2 + 1 ≤ 9007199254740991; omega⟩
          · exact ⟨h6, f2, by show 1 ≤ r.2.2.2 + 1; omega, by show r.2.2.2 + 1 ≤ 9007199254740991; omega⟩
      · exact g4 x (List.mem_of_mem_drop hx)
  · unfold splitR
    rw [if_neg he]
    exact h
/-- one row of a script: Id, Other, Key -/
abbrev ScD : Type := Int × Int × List Int
def scR (w : World) (cs : List Value) (x : ScD) : Prop := ∃ kv, cs = [.int .i64 x.1, .int .i64 x.2.1, kv] ∧ IsB w kv x.2.2 ∧ I64 x.1 ∧ I64 x.2.1
theorem scR_stays : Stays scR := fun _w _w' _cs _x hb ⟨kv, h1, h2, h3⟩ => ⟨kv, h1, h2.below hb, h3⟩
abbrev IsSc (w : World) (v : Value) (l : List ScD) : Prop := IsL 3 scR w v l
theorem IsSc.at3 {w : World} {ao : Option Addr} {n cap k : Nat} {l : List ScD} (h : IsSc w (.slice ao n cap) l) (hk : k < l.length) :
    ∃ b o x kv, ao = some ⟨b, o, none⟩ ∧ b < w.heap.size ∧ Hid (l[k]? = some x) ∧ w.cell? ⟨b, o + k * 3, none⟩ = some (.int .i64 x.1) ∧ w.cell? ⟨b, o + k * 3 + 1, none⟩ = some (.int .i64 x.2.1) ∧ w.cell? ⟨b, o + k * 3 + 2, none⟩ = some kv ∧ Hid (IsB w kv x.2.2) ∧ Hid (I64 x.1 ∧ I64 x.2.1) := by
  obtain ⟨b, o, x, cs, h1, h2, h3, h4, h5, kv, rfl, h6, h7⟩ := h.at_ hk
  exact ⟨b, o, x, kv, h1, h2, h3, h5.out 0 _ rfl, h5.out 1 _ rfl, h5.out 2 _ rfl, h6, h7⟩
abbrev scsTy : Ty := (.sl 40 (.st (.fcons 0 (.int .i64) (.fcons 1 (.int .i64) (.fcons 2 (.sl 1 (.int .u8)) .fnil)))))
theorem scsMt : Mt Try.prog scsTy (.inl 22) := ⟨_, Try.underlying22, by kernel_rfl, ⟨by decide, by kernel_rfl⟩, ⟨_, Try.underlying32, by kernel_rfl, ⟨_, rfl, rfl, ⟨Try.underlying3, by kernel_rfl⟩, ⟨_, rfl, rfl, ⟨Try.underlying3, by kernel_rfl⟩, ⟨_, rfl, rfl, ⟨_, Try.underlying23, by kernel_rfl, ⟨by decide, by kernel_rfl⟩, ⟨Try.underlying5, by kernel_rfl⟩⟩, trivial⟩⟩⟩⟩⟩
abbrev SxD : Type := Int × Int × List Int × Unit
theorem scs_of_rd {w : World} {v : Value} {l : List SxD} (h : Rd w scsTy [v] l) : IsSc w v (l.map fun x => (x.1, x.2.1, x.2.2.1)) := by
  obtain ⟨ao, cap, h1, h2, h3, h4, h5⟩ := Rd.sl' h
  simp only [List.cons.injEq, and_true] at h1
  refine ⟨ao, cap, by rw [List.length_map]; exact h1, by rw [List.length_map]; exact h2, h3, fun hn => ⟨by rw [List.eq_nil_of_length_eq_zero (h4 hn).1]; rfl, (h4 hn).2⟩, fun i x hx => ?_⟩
  rw [List.getElem?_map, Option.map_eq_some_iff] at hx
  obtain ⟨y, hy, rfl⟩ := hx
  obtain ⟨b, o, cs, k1, k2, k3, k4, k5⟩ := h5 i y hy
  have k3' : cs.length = 3 := k3
  match cs, k3' with
  | [c0, c1, c2], _ =>
    obtain ⟨_, q⟩ := Rd.st' k5
    obtain ⟨q0, q⟩ := Rd.fc q
    obtain ⟨q1, q⟩ := Rd.fc q
    obtain ⟨q2, _⟩ := Rd.fc q
    obtain ⟨e0, w0⟩ := Rd.int' q0
    obtain ⟨e1, w1⟩ := Rd.int' q1
    have e0' : [c0] = [.int .i64 y.1] := e0
    have e1' : [c1] = [.int .i64 y.2.1] := e1
    cases e0'
    cases e1'
    exact ⟨b, o, _, k1, k2, rfl, fun j u hu => k4 j u hu, c2, rfl, isB_of_rd q2, i64_of_wf w0, i64_of_wf w1⟩
theorem scs_open {w : World} {v : Value} {l : List SxD} (h : Rd w scsTy [v] l) (_ : Fits reachBytes scsTy l) : ∃ l : List ScD, IsSc w v l := ⟨_, scs_of_rd h⟩
abbrev spanTy : Ty := (.st (.fcons 0 (.sl 1 (.int .u8)) (.fcons 1 (.sl 1 (.int .u8)) .fnil)))
theorem spanMt : Mt Try.prog spanTy (.inl 25) := ⟨_, Try.underlying25, by kernel_rfl, ⟨_, rfl, rfl, ⟨_, Try.underlying23, by kernel_rfl, ⟨by decide, by kernel_rfl⟩, ⟨Try.underlying5, by kernel_rfl⟩⟩, ⟨_, rfl, rfl, ⟨_, Try.underlying23, by kernel_rfl, ⟨by decide, by kernel_rfl⟩, ⟨Try.underlying5, by kernel_rfl⟩⟩, trivial⟩⟩⟩
theorem span_open {w : World} {c0 c1 : Value} {d : List Int × List Int × Unit} (h : Rd w spanTy [c0, c1] d) (hf : Fits reachBytes spanTy d) : IsB w c0 d.1 ∧ IsB w c1 d.2.1 ∧ d.1.length ≤ 140737488355328 ∧ d.2.1.length ≤ 140737488355328 := by
  obtain ⟨_, q⟩ := Rd.st' h
  obtain ⟨q0, q⟩ := Rd.fc q
  obtain ⟨q1, _⟩ := Rd.fc q
  obtain ⟨a1, k⟩ := Fits.fc (Fits.st' hf)
  obtain ⟨a2, -⟩ := Fits.fc k
  have m1 := (Fits.sl' a1).1
  have m2 := (Fits.sl' a2).1
  simp only [Nat.mul_one, reachBytes] at m1 m2
  refine ⟨isB_of_rd q0, isB_of_rd q1, ?_, ?_⟩
  · exact Nat.le_trans m1 (by decide)
  · exact Nat.le_trans m2 (by decide)
theorem OwnRgs.typed {w : World} {base : Nat} {v : Value} {l : List RangeD} (h : OwnRgs w base v l) : ∀ b, v.ownBlock = some b → base ≤ b ∧ b < w.heap.size ∧ ∃ cur, w.heap[b]? = some (.cells cur 39 (0, 0)) := by
  obtain ⟨rs, h1, h2, h3⟩ := h
  exact own_typed h2
end Rm
end Go.Proofs.Ytbeniogffhihlaa
