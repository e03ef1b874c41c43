/- memtable: entries; own, Copy: an entry in new memory. -/
import Derived.Test.YtgkgfghmpimaoaaCodecC
import Derived.Test.YtgkgfghmpimaoaaOwnL
import Derived.Test.YtgkgfghmpimaoaaEq
import Derived.Test.YtgkgfghmpimaoaaRegT
import Derived.Deep.RegionHeld3
set_option linter.unusedVariables false
set_option linter.unusedSimpArgs false
namespace Go.Proofs.Ytgkgfghmpimaoaa
open Go.RowKit
namespace Mt
/-- an entry: Key, Seq, Del, Value -/
abbrev En : Type := List Int × Int × Bool × List Int
def U64 (x : Int) : Prop := 0 ≤ x ∧ x ≤ 18446744073709551615
def I64 (x : Int) : Prop := -9223372036854775808 ≤ x ∧ x ≤ 9223372036854775807
def Short (x : En) : Prop := x.1.length ≤ 140737488355328 ∧ x.2.2.2.length ≤ 140737488355328
/-- an entry of the call's own -/
def OwnP (x : En) (w : World) (e : Ending) (w' : World) : Prop := ∃ kv vv, e = .returned (.agg #[kv, .int .u64 x.2.1, .bool x.2.2.1, vv]) ∧ OwnS w' w.heap.size 5 kv x.1 ∧ OwnS w' w.heap.size 5 vv x.2.2.2 ∧ Below w.heap.size w w'
theorem ownS_away {w w' : World} {base g : Nat} {e : TypeId} {v : Value} {l : List Int} (h : OwnS w base e v l) (hg : w.grownBy w' (some g)) (hb : g < base) : OwnS w' base e v l :=
  h.kept hg (.inr fun he => by have := (h.lt _ he).1; omega)
theorem bel_of_drew {W w' : World} (h : Below W.drew.heap.size W.drew w') : Below W.heap.size W w' := (Below.refl W.heap.size W).drew.trans h
def CloneP (l : List Int) (w : World) (e : Ending) (w' : World) : Prop := ∃ ao cap, e = .returned (.slice ao l.length cap) ∧ l.length ≤ cap ∧ cap ≤ 9223372036854775807 ∧ OwnS w' w.heap.size 5 (.slice ao l.length cap) l ∧ Below w.heap.size w w'
theorem cloneB_any (ao : Option Addr) (cap : Nat) (l : List Int) (w : World) (h : IsB w (.slice ao l.length cap) l) (hl : l.length ≤ 140737488355328) :
    Calls Try.prog 37 #[.slice ao l.length cap] w (CloneP l w) :=
  (clone_any ao cap l w h hl).mono fun e w' ⟨v, h1, h2, h3⟩ => by
    obtain ⟨ao, cap, rfl, h4, h5, -, -⟩ := h2.form
    exact ⟨ao, cap, h1, h4, h5, h2, h3⟩
set_option maxRecDepth 100000 in
set_option maxHeartbeats 4000000 in
theorem own_any (kv vv : Value) (x : En) (w : World) (hk : IsB w kv x.1) (hv : IsB w vv x.2.2.2) (hs : Short x) : Calls Try.prog 30 #[.agg #[kv, .int .u64 x.2.1, .bool x.2.2.1, vv]] w (OwnP x w) := by
  obtain ⟨ko, kc, rfl, -, -, -⟩ := hk.form
  obtain ⟨vo, vc, rfl, -, -, -⟩ := hv.form
  obtain ⟨key, seq, del, val⟩ := x
  obtain ⟨hs1, hs2⟩ := hs
  simp only at hk hv hs1 hs2 ⊢
  have HC := Lib.hid (cloneB_any ko kc key ((w.alloc (.cells #[.slice ko key.length kc, .int .u64 seq, .bool del, .slice vo val.length vc] 32)).alloc (.cells #[.slice none 0 0, .int .u64 0, .bool false, .slice none 0 0] 32)).drew ((hk.alloc _).alloc _).drew hs1)
  have HV := Lib.hid ((hv.alloc (.cells #[.slice ko key.length kc, .int .u64 seq, .bool del, .slice vo val.length vc] 32)).alloc (.cells #[.slice none 0 0, .int .u64 0, .bool false, .slice none 0 0] 32))
  have HS2 := Lib.hid hs2
  clear hk hv hs1 hs2
  go_enter Try.func30, Try.ntmps30
  go_wp2_with fail
  refine wp_region_T (fun w' => Below ((w.alloc (.cells #[.slice ko key.length kc, .int .u64 seq, .bool del, .slice vo val.length vc] 32)).alloc (.cells #[.slice none 0 0, .int .u64 0, .bool false, .slice none 0 0] 32)).heap.size ((w.alloc (.cells #[.slice ko key.length kc, .int .u64 seq, .bool del, .slice vo val.length vc] 32)).alloc (.cells #[.slice none 0 0, .int .u64 0, .bool false, .slice none 0 0] 32)) w') [9, 10, 11] (by kernel_rfl) ?_ (fun hS9 => ?_)
  · exact (Below.refl _ _).drew
  refine wpAnyT_take (i := 0) rfl (by kernel_rfl) (by kernel_rfl) (by kernel_rfl) (by kernel_rfl) (by kernel_rfl) (by rfl) hS9 ?_; apply Exists.intro; refine ⟨fun _ _ _ h => h, fun w9 hT9 => ?_, ?_⟩
  · (try dsimp only at hT9); go_simp; first | done | with_reducible rfl | rfl
  simp only [Act.put, List.setIfInBounds_toArray, List.set_cons_succ, List.set_cons_zero]
  refine wpAnyT_take (i := 1) rfl (by kernel_rfl) (by kernel_rfl) (by kernel_rfl) (by kernel_rfl) (by kernel_rfl) (by rfl) hS9 ?_; apply Exists.intro; refine ⟨fun _ _ _ h => h, fun w9 hT9 => ?_, ?_⟩
  · (try dsimp only at hT9); obtain ⟨hcc9, hff9⟩ := bcell hT9; go_simp; first | done | with_reducible rfl | rfl
  simp only [Act.put, List.setIfInBounds_toArray, List.set_cons_succ, List.set_cons_zero]
  refine wpAnyT_take (i := 4) rfl (by kernel_rfl) (by kernel_rfl) (by kernel_rfl) (by kernel_rfl) (by kernel_rfl) (by rfl) hS9 ?_; apply Exists.intro; refine ⟨fun _ _ _ h => h, fun w9 hT9 => ?_, ?_⟩
  · (try dsimp only at hT9); go_simp; first | done | with_reducible rfl | rfl
  simp only [Act.put, List.setIfInBounds_toArray, List.set_cons_succ, List.set_cons_zero]
  refine wpAnyT_take (i := 5) rfl (by kernel_rfl) (by kernel_rfl) (by kernel_rfl) (by kernel_rfl) (by kernel_rfl) (by rfl) hS9 ?_; apply Exists.intro; refine ⟨fun _ _ _ h => h, fun w9 hT9 => ?_, ?_⟩
  · (try dsimp only at hT9); obtain ⟨hcc9, hff9⟩ := bcell hT9; go_simp; first | done | with_reducible rfl | rfl
  simp only [Act.put, List.setIfInBounds_toArray, List.set_cons_succ, List.set_cons_zero]
  refine wpAnyT_one (i := 2) rfl (by kernel_rfl) (fun K9 hK9 => ?_)
  go_simp; (with_reducible refine Calls.mono HC.out ?_); unfold CloneP; rintro e w1 ⟨ko1, kc1, rfl, hk1, hk2, h1, hb⟩; have H1 := Lib.hid h1; have HB1 := Lib.hid (bel_of_drew hb); clear h1
  refine hK9.out _ _ ?_ (fun hT9 => ?_)
  · (try dsimp only); (first | exact hS9 | exact bel_call hS9 hb | exact bel_alloc hS9 _ | exact hS9.setCell (by simp <;> omega) _)
  clear hK9 K9 hS9; have hS9 := hT9; clear hT9
  (try simp only [Act.put, List.setIfInBounds_toArray, List.set_cons_succ, List.set_cons_zero])
  refine wpAnyT_one (i := 3) rfl (by kernel_rfl) (fun K9 hK9 => ?_)
  go_simp; (with_reducible refine Calls.mono (clip_any ko1 key.length kc1 w1 hk1 hk2) ?_); rintro e w2 ⟨rfl, rfl⟩; clear hb; have hb := Below.refl w1.heap.size w1
  refine hK9.out _ _ ?_ (fun hT9 => ?_)
  · (try dsimp only); (first | exact hS9 | exact bel_call hS9 hb | exact bel_alloc hS9 _ | exact hS9.setCell (by simp <;> omega) _)
  clear hK9 K9 hS9; have hS9 := hT9; clear hT9
  (try simp only [Act.put, List.setIfInBounds_toArray, List.set_cons_succ, List.set_cons_zero])
  refine wpAnyT_take (i := 8) rfl (by kernel_rfl) (by kernel_rfl) (by kernel_rfl) (by kernel_rfl) (by kernel_rfl) (by rfl) hS9 ?_; apply Exists.intro; refine ⟨fun _ _ _ h => h, fun w9 hT9 => ?_, ?_⟩
  · (try dsimp only at hT9); go_simp; first | done | with_reducible rfl | rfl
  simp only [Act.put, List.setIfInBounds_toArray, List.set_cons_succ, List.set_cons_zero]
  refine wpAnyT_one (i := 6) rfl (by kernel_rfl) (fun K9 hK9 => ?_)
  go_simp; (with_reducible refine Calls.mono (cloneB_any vo vc val w1 (HV.out.below HB1.out) HS2.out) ?_); unfold CloneP; rintro e w3 ⟨vo1, vc1, rfl, hv1, hv2, h3, hb⟩; have H3 := Lib.hid h3; have HB13 := Lib.hid hb; have HB3 := Lib.hid (bel_call HB1.out hb); clear h3; have A0 : w3.cell? ⟨w.heap.size, 0, none⟩ = some (.slice ko key.length kc) := (HB3.out.cell (p := ⟨w.heap.size, 0, none⟩) (by simp <;> omega)).trans (by go_simp); have A0f : w3.frozen? ⟨w.heap.size, 0, none⟩ = false := (HB3.out.frozen (p := ⟨w.heap.size, 0, none⟩) (by simp <;> omega)).trans (by go_simp); have A1 : w3.cell? ⟨w.heap.size, 1, none⟩ = some (.int .u64 seq) := (HB3.out.cell (p := ⟨w.heap.size, 1, none⟩) (by simp <;> omega)).trans (by go_simp); have A2 : w3.cell? ⟨w.heap.size, 2, none⟩ = some (.bool del) := (HB3.out.cell (p := ⟨w.heap.size, 2, none⟩) (by simp <;> omega)).trans (by go_simp); have A3 : w3.cell? ⟨w.heap.size, 3, none⟩ = some (.slice vo val.length vc) := (HB3.out.cell (p := ⟨w.heap.size, 3, none⟩) (by simp <;> omega)).trans (by go_simp); have A3f : w3.frozen? ⟨w.heap.size, 3, none⟩ = false := (HB3.out.frozen (p := ⟨w.heap.size, 3, none⟩) (by simp <;> omega)).trans (by go_simp); have B0 : w3.cell? ⟨w.heap.size + 1, 0, none⟩ = some (.slice none 0 0) := (HB3.out.cell (p := ⟨w.heap.size + 1, 0, none⟩) (by simp <;> omega)).trans (by go_simp); have B0f : w3.frozen? ⟨w.heap.size + 1, 0, none⟩ = false := (HB3.out.frozen (p := ⟨w.heap.size + 1, 0, none⟩) (by simp <;> omega)).trans (by go_simp); have B1 : w3.cell? ⟨w.heap.size + 1, 1, none⟩ = some (.int .u64 0) := (HB3.out.cell (p := ⟨w.heap.size + 1, 1, none⟩) (by simp <;> omega)).trans (by go_simp); have B1f : w3.frozen? ⟨w.heap.size + 1, 1, none⟩ = false := (HB3.out.frozen (p := ⟨w.heap.size + 1, 1, none⟩) (by simp <;> omega)).trans (by go_simp); have B2 : w3.cell? ⟨w.heap.size + 1, 2, none⟩ = some (.bool false) := (HB3.out.cell (p := ⟨w.heap.size + 1, 2, none⟩) (by simp <;> omega)).trans (by go_simp); have B2f : w3.frozen? ⟨w.heap.size + 1, 2, none⟩ = false := (HB3.out.frozen (p := ⟨w.heap.size + 1, 2, none⟩) (by simp <;> omega)).trans (by go_simp); have B3 : w3.cell? ⟨w.heap.size + 1, 3, none⟩ = some (.slice none 0 0) := (HB3.out.cell (p := ⟨w.heap.size + 1, 3, none⟩) (by simp <;> omega)).trans (by go_simp); have B3f : w3.frozen? ⟨w.heap.size + 1, 3, none⟩ = false := (HB3.out.frozen (p := ⟨w.heap.size + 1, 3, none⟩) (by simp <;> omega)).trans (by go_simp)
  refine hK9.out _ _ ?_ (fun hT9 => ?_)
  · (try dsimp only); (first | exact hS9 | exact bel_call hS9 hb | exact bel_alloc hS9 _ | exact hS9.setCell (by simp <;> omega) _)
  clear hK9 K9 hS9; have hS9 := hT9; clear hT9
  (try simp only [Act.put, List.setIfInBounds_toArray, List.set_cons_succ, List.set_cons_zero])
  refine wpAnyT_one (i := 7) rfl (by kernel_rfl) (fun K9 hK9 => ?_)
  go_simp; (with_reducible refine Calls.mono (clip_any vo1 val.length vc1 w3 hv1 hv2) ?_); rintro e w4 ⟨rfl, rfl⟩; clear hb; have hb := Below.refl w3.heap.size w3
  refine hK9.out _ _ ?_ (fun hT9 => ?_)
  · (try dsimp only); (first | exact hS9 | exact bel_call hS9 hb | exact bel_alloc hS9 _ | exact hS9.setCell (by simp <;> omega) _)
  clear hK9 K9 hS9; have hS9 := hT9; clear hT9
  (try simp only [Act.put, List.setIfInBounds_toArray, List.set_cons_succ, List.set_cons_zero])
  refine wpAnyT_free (i := 9) rfl (by kernel_rfl) (by kernel_rfl) (fun K9 hK9 => ?_)
  go_simp
  refine hK9.out _ _ ?_; clear hK9 K9
  (try simp only [Act.put, List.setIfInBounds_toArray, List.set_cons_succ, List.set_cons_zero])
  refine wpAnyT_free (i := 10) rfl (by kernel_rfl) (by kernel_rfl) (fun K9 hK9 => ?_)
  go_simp
  refine hK9.out _ _ ?_; clear hK9 K9
  (try simp only [Act.put, List.setIfInBounds_toArray, List.set_cons_succ, List.set_cons_zero])
  refine wpAnyT_free (i := 11) rfl (by kernel_rfl) (by kernel_rfl) (fun K9 hK9 => ?_)
  go_simp
  refine hK9.out _ _ ?_; clear hK9 K9
  (try simp only [Act.put, List.setIfInBounds_toArray, List.set_cons_succ, List.set_cons_zero])
  refine wpAnyT_done (by kernel_rfl) ?_ _; have HS9 := Lib.hid hS9; clear hS9
  have HK := Lib.hid ((H1.out.clip).below HB13.out)
  have hsz : w.heap.size + 2 ≤ w1.heap.size := by have := HB1.out.size; simp at this; omega
  have HSZ := Lib.hid hsz
  clear hsz
  have GW : Hid (Below w.heap.size w w3) := Lib.hid (bel_call (bel_alloc (bel_alloc (Below.refl _ w) _) _) HB3.out)
  have X1 : Hid (∀ w', Chg (fun b => b = w.heap.size ∨ b = w.heap.size + 1) w3 w' → OwnS w' w.heap.size 5 (.slice ko1 key.length key.length) key) := Lib.hid fun w' c => (c.ownS HK.out (fun b hb h => by have := (HK.out.lt _ hb).1; simp [World.drew] at this; omega)).mono (by simp [World.drew]; omega)
  have X2 : Hid (∀ w', Chg (fun b => b = w.heap.size ∨ b = w.heap.size + 1) w3 w' → OwnS w' w.heap.size 5 (.slice vo1 val.length val.length) val) := Lib.hid fun w' c => (c.ownS H3.out.clip (fun b hb h => by have := (H3.out.clip.lt _ hb).1; have := HSZ.out; omega)).mono (by have := HSZ.out; omega)
  have X3 : Hid (∀ w', Chg (fun b => b = w.heap.size ∨ b = w.heap.size + 1) w3 w' → Below w.heap.size w w') := Lib.hid fun w' c => GW.out.trans (c.below GW.out.size fun b hb h => by omega)
  have X0 : Hid (Chg (fun b => b = w.heap.size ∨ b = w.heap.size + 1) w3 w3) := Lib.hid (Chg.refl _ _)
  clear HC HV HK H1 H3 HB1 HB13 HB3 GW HS9 HSZ HS2
  go_wp2_with fail
  have X : Chg (fun b => b = w.heap.size ∨ b = w.heap.size + 1) w3 _ := (((((X0.out.set (p := ⟨w.heap.size, 0, none⟩) (fun _ => .inl rfl) (.slice ko1 key.length key.length)).set (p := ⟨w.heap.size, 3, none⟩) (fun _ => .inl rfl) (.slice vo1 val.length val.length)).set (p := ⟨w.heap.size + 1, 0, none⟩) (fun _ => .inr rfl) (.slice ko1 key.length key.length)).set (p := ⟨w.heap.size + 1, 1, none⟩) (fun _ => .inr rfl) (.int .u64 seq)).set (p := ⟨w.heap.size + 1, 2, none⟩) (fun _ => .inr rfl) (.bool del)).set (p := ⟨w.heap.size + 1, 3, none⟩) (fun _ => .inr rfl) (.slice vo1 val.length val.length)
  exact bodyPost_ret (v := .agg #[.slice ko1 key.length key.length, .int .u64 seq, .bool del, .slice vo1 val.length val.length]) (by simp [results, Try.results30, go_sem]; go_simp) rfl ⟨_, _, rfl, X1.out _ X, X2.out _ X, X3.out _ X⟩
set_option maxRecDepth 100000 in
set_option maxHeartbeats 4000000 in
theorem copy_any (kv vv : Value) (x : En) (w : World) (hk : IsB w kv x.1) (hv : IsB w vv x.2.2.2) (hs : Short x) : Calls Try.prog 20 #[.agg #[kv, .int .u64 x.2.1, .bool x.2.2.1, vv]] w (OwnP x w) := by
  obtain ⟨ko, kc, rfl, -, -, -⟩ := hk.form
  obtain ⟨vo, vc, rfl, -, -, -⟩ := hv.form
  obtain ⟨key, seq, del, val⟩ := x
  obtain ⟨hs1, hs2⟩ := hs
  simp only at hk hv hs1 hs2 ⊢
  obtain ⟨i0, hi0, hz0, hz1, hz2⟩ := info_parts infoU8
  have HI := Lib.hid hi0; have HZ0 := Lib.hid hz0; have HZ1 := Lib.hid hz1; have HZ2 := Lib.hid hz2
  have HK := Lib.hid hk
  have HV := Lib.hid hv
  have HS1 := Lib.hid hs1
  have HS2 := Lib.hid hs2
  clear hi0 hz0 hz1 hz2 hk hv hs1 hs2
  have HBK : Hid (∀ w', Below w.heap.size w w' → IsB w' (.slice ko key.length kc) key) := Lib.hid fun w' h => HK.out.below h
  have HBV : Hid (∀ w', Below w.heap.size w w' → IsB w' (.slice vo val.length vc) val) := Lib.hid fun w' h => HV.out.below h
  go_enter Try.func20, Try.ntmps20
  go_wp2_with (first
    | (at_builtin; refine wpList_append_bytes (base := w.heap.size + 3) (.tmp 10) (.tmp 12) _ rfl rfl i0 _ Try.underlying29 HI.out HZ0.out HZ1.out HZ2.out rfl _ [] key rfl rfl (World.ownsRow_nil _ _ _ _) (HBK.out _ (by repeat' (first | (with_reducible exact Below.refl _ _) | (with_reducible assumption) | (with_reducible refine Below.drew ?_) | (with_reducible refine below_drewN ?_ _) | (with_reducible refine bel_alloc ?_ _) | (with_reducible refine Below.setCell ?_ ?_ _) | (with_reducible refine bel_call ?_ (by assumption)) | (simp <;> omega)))) (by have := HS1.out; omega) (by simp <;> omega) ?_; intro v1 w1 hown1 hb1; simp only [Nat.zero_add, List.nil_append] at hown1; have c0 : w1.cell? ⟨w.heap.size, 0, none⟩ = some (.slice ko key.length kc) := (hb1.cell (p := ⟨w.heap.size, 0, none⟩) (by simp <;> omega)).trans (by first | (go_simp; done) | (rw [World.cell?_setCell_other (by simp)]; assumption) | exact World.cell?_setCell_same' _ _ _ (by simp [*])); have c1 : w1.cell? ⟨w.heap.size, 1, none⟩ = some (.int .u64 seq) := (hb1.cell (p := ⟨w.heap.size, 1, none⟩) (by simp <;> omega)).trans (by first | (go_simp; done) | (rw [World.cell?_setCell_other (by simp)]; assumption) | exact World.cell?_setCell_same' _ _ _ (by simp [*])); have c2 : w1.cell? ⟨w.heap.size, 2, none⟩ = some (.bool del) := (hb1.cell (p := ⟨w.heap.size, 2, none⟩) (by simp <;> omega)).trans (by first | (go_simp; done) | (rw [World.cell?_setCell_other (by simp)]; assumption) | exact World.cell?_setCell_same' _ _ _ (by simp [*])); have c3 : w1.cell? ⟨w.heap.size, 3, none⟩ = some (.slice vo val.length vc) := (hb1.cell (p := ⟨w.heap.size, 3, none⟩) (by simp <;> omega)).trans (by first | (go_simp; done) | (rw [World.cell?_setCell_other (by simp)]; assumption) | exact World.cell?_setCell_same' _ _ _ (by simp [*])); have c4 : w1.cell? ⟨w.heap.size + 1, 0, none⟩ = some (.slice none 0 0) := (hb1.cell (p := ⟨w.heap.size + 1, 0, none⟩) (by simp <;> omega)).trans (by first | (go_simp; done) | (rw [World.cell?_setCell_other (by simp)]; assumption) | exact World.cell?_setCell_same' _ _ _ (by simp [*])); have cf4 : w1.frozen? ⟨w.heap.size + 1, 0, none⟩ = false := (hb1.frozen (p := ⟨w.heap.size + 1, 0, none⟩) (by simp <;> omega)).trans (by first | (go_simp; done) | (rw [World.frozen?_setCell]; assumption)); have c5 : w1.cell? ⟨w.heap.size + 1, 1, none⟩ = some (.int .u64 0) := (hb1.cell (p := ⟨w.heap.size + 1, 1, none⟩) (by simp <;> omega)).trans (by first | (go_simp; done) | (rw [World.cell?_setCell_other (by simp)]; assumption) | exact World.cell?_setCell_same' _ _ _ (by simp [*])); have cf5 : w1.frozen? ⟨w.heap.size + 1, 1, none⟩ = false := (hb1.frozen (p := ⟨w.heap.size + 1, 1, none⟩) (by simp <;> omega)).trans (by first | (go_simp; done) | (rw [World.frozen?_setCell]; assumption)); have c6 : w1.cell? ⟨w.heap.size + 1, 2, none⟩ = some (.bool false) := (hb1.cell (p := ⟨w.heap.size + 1, 2, none⟩) (by simp <;> omega)).trans (by first | (go_simp; done) | (rw [World.cell?_setCell_other (by simp)]; assumption) | exact World.cell?_setCell_same' _ _ _ (by simp [*])); have cf6 : w1.frozen? ⟨w.heap.size + 1, 2, none⟩ = false := (hb1.frozen (p := ⟨w.heap.size + 1, 2, none⟩) (by simp <;> omega)).trans (by first | (go_simp; done) | (rw [World.frozen?_setCell]; assumption)); have c7 : w1.cell? ⟨w.heap.size + 1, 3, none⟩ = some (.slice none 0 0) := (hb1.cell (p := ⟨w.heap.size + 1, 3, none⟩) (by simp <;> omega)).trans (by first | (go_simp; done) | (rw [World.cell?_setCell_other (by simp)]; assumption) | exact World.cell?_setCell_same' _ _ _ (by simp [*])); have cf7 : w1.frozen? ⟨w.heap.size + 1, 3, none⟩ = false := (hb1.frozen (p := ⟨w.heap.size + 1, 3, none⟩) (by simp <;> omega)).trans (by first | (go_simp; done) | (rw [World.frozen?_setCell]; assumption)); have c8 : w1.cell? ⟨w.heap.size + 2, 0, none⟩ = some (.slice none 0 0) := (hb1.cell (p := ⟨w.heap.size + 2, 0, none⟩) (by simp <;> omega)).trans (by first | (go_simp; done) | (rw [World.cell?_setCell_other (by simp)]; assumption) | exact World.cell?_setCell_same' _ _ _ (by simp [*])); have cf8 : w1.frozen? ⟨w.heap.size + 2, 0, none⟩ = false := (hb1.frozen (p := ⟨w.heap.size + 2, 0, none⟩) (by simp <;> omega)).trans (by first | (go_simp; done) | (rw [World.frozen?_setCell]; assumption)); have c9 : w1.cell? ⟨w.heap.size + 2, 1, none⟩ = some (.int .u64 seq) := (hb1.cell (p := ⟨w.heap.size + 2, 1, none⟩) (by simp <;> omega)).trans (by first | (go_simp; done) | (rw [World.cell?_setCell_other (by simp)]; assumption) | exact World.cell?_setCell_same' _ _ _ (by simp [*])); have cf9 : w1.frozen? ⟨w.heap.size + 2, 1, none⟩ = false := (hb1.frozen (p := ⟨w.heap.size + 2, 1, none⟩) (by simp <;> omega)).trans (by first | (go_simp; done) | (rw [World.frozen?_setCell]; assumption)); have c10 : w1.cell? ⟨w.heap.size + 2, 2, none⟩ = some (.bool del) := (hb1.cell (p := ⟨w.heap.size + 2, 2, none⟩) (by simp <;> omega)).trans (by first | (go_simp; done) | (rw [World.cell?_setCell_other (by simp)]; assumption) | exact World.cell?_setCell_same' _ _ _ (by simp [*])); have cf10 : w1.frozen? ⟨w.heap.size + 2, 2, none⟩ = false := (hb1.frozen (p := ⟨w.heap.size + 2, 2, none⟩) (by simp <;> omega)).trans (by first | (go_simp; done) | (rw [World.frozen?_setCell]; assumption)); have c11 : w1.cell? ⟨w.heap.size + 2, 3, none⟩ = some (.slice none 0 0) := (hb1.cell (p := ⟨w.heap.size + 2, 3, none⟩) (by simp <;> omega)).trans (by first | (go_simp; done) | (rw [World.cell?_setCell_other (by simp)]; assumption) | exact World.cell?_setCell_same' _ _ _ (by simp [*])); have cf11 : w1.frozen? ⟨w.heap.size + 2, 3, none⟩ = false := (hb1.frozen (p := ⟨w.heap.size + 2, 3, none⟩) (by simp <;> omega)).trans (by first | (go_simp; done) | (rw [World.frozen?_setCell]; assumption)); have H1 := Lib.hid (OwnS.of_own hown1 HK.out.rng); obtain ⟨ko1, kc1, rfl, -, -, -, -⟩ := H1.out.form; have HB1 := Lib.hid hb1; have GW1 : Hid (Below w.heap.size w w1) := Lib.hid ((bel_alloc (bel_alloc (bel_alloc (Below.refl _ w) _) _) _).trans (hb1.mono (by omega))); have HL1 : Hid (w.heap.size + 3 ≤ w1.heap.size) := Lib.hid (by have := hb1.size; simp at this; omega); clear hown1 hb1)
    | (at_builtin; refine wpList_append_bytes (base := w1.heap.size) (.tmp 16) (.tmp 18) _ rfl rfl i0 _ Try.underlying29 HI.out HZ0.out HZ1.out HZ2.out rfl _ [] val rfl rfl (World.ownsRow_nil _ _ _ _) (HBV.out _ ((GW1.out.setCell (p := ⟨w.heap.size + 2, 0, none⟩) (by simp) _))) (by have := HS2.out; omega) (by simp) ?_; intro v2 w2 hown2 hb2; simp only [Nat.zero_add, List.nil_append] at hown2; have hl1 := HL1.out; have d0 : w2.cell? ⟨w.heap.size, 0, none⟩ = some (.slice ko key.length kc) := (hb2.cell (p := ⟨w.heap.size, 0, none⟩) (by simp <;> omega)).trans (by first | (go_simp; done) | (rw [World.cell?_setCell_other (by simp)]; assumption) | exact World.cell?_setCell_same' _ _ _ (by simp [*])); have d1 : w2.cell? ⟨w.heap.size, 1, none⟩ = some (.int .u64 seq) := (hb2.cell (p := ⟨w.heap.size, 1, none⟩) (by simp <;> omega)).trans (by first | (go_simp; done) | (rw [World.cell?_setCell_other (by simp)]; assumption) | exact World.cell?_setCell_same' _ _ _ (by simp [*])); have d2 : w2.cell? ⟨w.heap.size, 2, none⟩ = some (.bool del) := (hb2.cell (p := ⟨w.heap.size, 2, none⟩) (by simp <;> omega)).trans (by first | (go_simp; done) | (rw [World.cell?_setCell_other (by simp)]; assumption) | exact World.cell?_setCell_same' _ _ _ (by simp [*])); have d3 : w2.cell? ⟨w.heap.size, 3, none⟩ = some (.slice vo val.length vc) := (hb2.cell (p := ⟨w.heap.size, 3, none⟩) (by simp <;> omega)).trans (by first | (go_simp; done) | (rw [World.cell?_setCell_other (by simp)]; assumption) | exact World.cell?_setCell_same' _ _ _ (by simp [*])); have d4 : w2.cell? ⟨w.heap.size + 1, 0, none⟩ = some (.slice none 0 0) := (hb2.cell (p := ⟨w.heap.size + 1, 0, none⟩) (by simp <;> omega)).trans (by first | (go_simp; done) | (rw [World.cell?_setCell_other (by simp)]; assumption) | exact World.cell?_setCell_same' _ _ _ (by simp [*])); have df4 : w2.frozen? ⟨w.heap.size + 1, 0, none⟩ = false := (hb2.frozen (p := ⟨w.heap.size + 1, 0, none⟩) (by simp <;> omega)).trans (by first | (go_simp; done) | (rw [World.frozen?_setCell]; assumption)); have d5 : w2.cell? ⟨w.heap.size + 1, 1, none⟩ = some (.int .u64 0) := (hb2.cell (p := ⟨w.heap.size + 1, 1, none⟩) (by simp <;> omega)).trans (by first | (go_simp; done) | (rw [World.cell?_setCell_other (by simp)]; assumption) | exact World.cell?_setCell_same' _ _ _ (by simp [*])); have df5 : w2.frozen? ⟨w.heap.size + 1, 1, none⟩ = false := (hb2.frozen (p := ⟨w.heap.size + 1, 1, none⟩) (by simp <;> omega)).trans (by first | (go_simp; done) | (rw [World.frozen?_setCell]; assumption)); have d6 : w2.cell? ⟨w.heap.size + 1, 2, none⟩ = some (.bool false) := (hb2.cell (p := ⟨w.heap.size + 1, 2, none⟩) (by simp <;> omega)).trans (by first | (go_simp; done) | (rw [World.cell?_setCell_other (by simp)]; assumption) | exact World.cell?_setCell_same' _ _ _ (by simp [*])); have df6 : w2.frozen? ⟨w.heap.size + 1, 2, none⟩ = false := (hb2.frozen (p := ⟨w.heap.size + 1, 2, none⟩) (by simp <;> omega)).trans (by first | (go_simp; done) | (rw [World.frozen?_setCell]; assumption)); have d7 : w2.cell? ⟨w.heap.size + 1, 3, none⟩ = some (.slice none 0 0) := (hb2.cell (p := ⟨w.heap.size + 1, 3, none⟩) (by simp <;> omega)).trans (by first | (go_simp; done) | (rw [World.cell?_setCell_other (by simp)]; assumption) | exact World.cell?_setCell_same' _ _ _ (by simp [*])); have df7 : w2.frozen? ⟨w.heap.size + 1, 3, none⟩ = false := (hb2.frozen (p := ⟨w.heap.size + 1, 3, none⟩) (by simp <;> omega)).trans (by first | (go_simp; done) | (rw [World.frozen?_setCell]; assumption)); have d8 : w2.cell? ⟨w.heap.size + 2, 0, none⟩ = some (.slice ko1 key.length kc1) := (hb2.cell (p := ⟨w.heap.size + 2, 0, none⟩) (by simp <;> omega)).trans (by first | (go_simp; done) | (rw [World.cell?_setCell_other (by simp)]; assumption) | exact World.cell?_setCell_same' _ _ _ (by simp [*])); have df8 : w2.frozen? ⟨w.heap.size + 2, 0, none⟩ = false := (hb2.frozen (p := ⟨w.heap.size + 2, 0, none⟩) (by simp <;> omega)).trans (by first | (go_simp; done) | (rw [World.frozen?_setCell]; assumption)); have d9 : w2.cell? ⟨w.heap.size + 2, 1, none⟩ = some (.int .u64 seq) := (hb2.cell (p := ⟨w.heap.size + 2, 1, none⟩) (by simp <;> omega)).trans (by first | (go_simp; done) | (rw [World.cell?_setCell_other (by simp)]; assumption) | exact World.cell?_setCell_same' _ _ _ (by simp [*])); have df9 : w2.frozen? ⟨w.heap.size + 2, 1, none⟩ = false := (hb2.frozen (p := ⟨w.heap.size + 2, 1, none⟩) (by simp <;> omega)).trans (by first | (go_simp; done) | (rw [World.frozen?_setCell]; assumption)); have d10 : w2.cell? ⟨w.heap.size + 2, 2, none⟩ = some (.bool del) := (hb2.cell (p := ⟨w.heap.size + 2, 2, none⟩) (by simp <;> omega)).trans (by first | (go_simp; done) | (rw [World.cell?_setCell_other (by simp)]; assumption) | exact World.cell?_setCell_same' _ _ _ (by simp [*])); have df10 : w2.frozen? ⟨w.heap.size + 2, 2, none⟩ = false := (hb2.frozen (p := ⟨w.heap.size + 2, 2, none⟩) (by simp <;> omega)).trans (by first | (go_simp; done) | (rw [World.frozen?_setCell]; assumption)); have d11 : w2.cell? ⟨w.heap.size + 2, 3, none⟩ = some (.slice none 0 0) := (hb2.cell (p := ⟨w.heap.size + 2, 3, none⟩) (by simp <;> omega)).trans (by first | (go_simp; done) | (rw [World.cell?_setCell_other (by simp)]; assumption) | exact World.cell?_setCell_same' _ _ _ (by simp [*])); have df11 : w2.frozen? ⟨w.heap.size + 2, 3, none⟩ = false := (hb2.frozen (p := ⟨w.heap.size + 2, 3, none⟩) (by simp <;> omega)).trans (by first | (go_simp; done) | (rw [World.frozen?_setCell]; assumption)); have H2 := Lib.hid (OwnS.of_own hown2 HV.out.rng); obtain ⟨vo1, vc1, rfl, -, -, -, -⟩ := H2.out.form; have H1' := Lib.hid ((ownS_away H1.out (gb_set (gb_refl w1 (some (w.heap.size + 2))) (p := ⟨w.heap.size + 2, 0, none⟩) (.inl rfl) (.slice ko1 key.length kc1)) (by omega)).below (hb2.mono (by simp))); have GW2 : Hid (Below w.heap.size w w2) := Lib.hid (((GW1.out.setCell (p := ⟨w.heap.size + 2, 0, none⟩) (by simp) (.slice ko1 key.length kc1))).trans (hb2.mono GW1.out.size)); clear hown2 hb2 hl1 c0 c1 c2 c3 c4 cf4 c5 cf5 c6 cf6 c7 cf7 c8 cf8 c9 cf9 c10 cf10 c11 cf11)
    | fail)
  have X1 : Hid (∀ w', Chg (fun b => b = w.heap.size ∨ b = w.heap.size + 1 ∨ b = w.heap.size + 2) w2 w' → OwnS w' w.heap.size 5 (.slice ko1 key.length kc1) key) := Lib.hid fun w' c => (c.ownS H1'.out (fun b hb h => by have := (H1'.out.lt _ hb).1; omega)).mono (by omega)
  have X2 : Hid (∀ w', Chg (fun b => b = w.heap.size ∨ b = w.heap.size + 1 ∨ b = w.heap.size + 2) w2 w' → OwnS w' w.heap.size 5 (.slice vo1 val.length vc1) val) := Lib.hid fun w' c => (c.ownS H2.out (fun b hb h => by have := (H2.out.lt _ hb).1; have := HL1.out; omega)).mono (by have := HL1.out; omega)
  have X3 : Hid (∀ w', Chg (fun b => b = w.heap.size ∨ b = w.heap.size + 1 ∨ b = w.heap.size + 2) w2 w' → Below w.heap.size w w') := Lib.hid fun w' c => GW2.out.trans (c.below GW2.out.size fun b hb h => by omega)
  have X0 : Hid (Chg (fun b => b = w.heap.size ∨ b = w.heap.size + 1 ∨ b = w.heap.size + 2) w2 w2) := Lib.hid (Chg.refl _ _)
  clear HV HK H1 H1' H2 HB1 GW1 GW2 HL1 HS1 HS2 HBK HBV
  go_wp2_with fail
  have X : Chg (fun b => b = w.heap.size ∨ b = w.heap.size + 1 ∨ b = w.heap.size + 2) w2 _ := ((((X0.out.set (p := ⟨w.heap.size + 2, 3, none⟩) (fun _ => .inr (.inr rfl)) (.slice vo1 val.length vc1)).set (p := ⟨w.heap.size + 1, 0, none⟩) (fun _ => .inr (.inl rfl)) (.slice ko1 key.length kc1)).set (p := ⟨w.heap.size + 1, 1, none⟩) (fun _ => .inr (.inl rfl)) (.int .u64 seq)).set (p := ⟨w.heap.size + 1, 2, none⟩) (fun _ => .inr (.inl rfl)) (.bool del)).set (p := ⟨w.heap.size + 1, 3, none⟩) (fun _ => .inr (.inl rfl)) (.slice vo1 val.length vc1)
  exact bodyPost_ret (v := .agg #[.slice ko1 key.length kc1, .int .u64 seq, .bool del, .slice vo1 val.length vc1]) (by simp [results, Try.results20, go_sem]; go_simp) rfl ⟨_, _, rfl, X1.out _ X, X2.out _ X, X3.out _ X⟩
end Mt
end Go.Proofs.Ytgkgfghmpimaoaa
