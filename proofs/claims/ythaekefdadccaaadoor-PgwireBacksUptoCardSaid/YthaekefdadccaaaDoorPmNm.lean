/- PM: lemmas of the library under short names (a claim's text is bounded). No program in sight. -/
import Derived.Test.YthaekefdadccaaaDoorKit
namespace Go.Proofs.YthaekefdadccaaaDoor
namespace PM
theorem U0.{u_1} {α : Type u_1} : Array.toList (#[] : Array α) = [] := rfl
theorem U1.{u} {α : Type u} {as' : List α} : Array.size (List.toArray as') = List.length as' := by first | exact List.size_toArray .. | exact List.size_toArray | simp
theorem U2 (a : Nat) : min a a = a := by first | exact Nat.min_self .. | exact Nat.min_self | simp
theorem U3.{u_1} {α' : Type u_1} {a : α'} : Option.isSome (some a) = true := rfl
theorem U4.{u_1} {α' : Type u_1} {l : List α'} {L : List (List α')} : List.flatten (l :: L) = l ++ List.flatten L := rfl
theorem U5.{u} {α : Type u} : List.flatten ([] : List (List α)) = [] := rfl
theorem U6.{u} {α : Type u} {a : α} : List.replicate 0 a = [] := rfl
theorem U7.{u_1} {α' : Type u_1} {x : α'} {xs : List α'} {d : α'} : List.getD (x :: xs) 0 d = x := by first | exact List.getD_cons_zero .. | exact List.getD_cons_zero | simp
theorem U8.{u_1} {α' : Type u_1} {x : α'} {xs : List α'} {n : Nat} {d : α'} : List.getD (x :: xs) (n + 1) d = List.getD xs n d := by first | exact List.getD_cons_succ .. | exact List.getD_cons_succ | simp
theorem U9.{u_1} {n : Nat} {α' : Type u_1} {d : α'} : List.getD [] n d = d := rfl
theorem Ua.{u_1} {α : Type u_1} {a : α} {l : List α} : (a :: l)[0]? = some a := rfl
theorem Ub.{u_1} {α : Type u_1} {a : α} {i : Nat} {l : List α} : (a :: l)[i + 1]? = l[i]? := rfl
theorem Uc.{u_1} {α : Type u_1} {x : α} {xs : List α} {a : α} : List.set (x :: xs) 0 a = a :: xs := rfl
theorem Ud.{u_1} {α : Type u_1} {x : α} {xs : List α} {i : Nat} {a : α} : List.set (x :: xs) (i + 1) a = x :: List.set xs i a := rfl
theorem Ue.{u_1} {α : Type u_1} {i : Nat} {a : α} : List.set ([] : List α) i a = [] := rfl
theorem Uf.{u} {α : Type u} {a : α} {as' : List α} : List.length (a :: as') = List.length as' + 1 := rfl
theorem Ug.{u} {α : Type u} : List.length ([] : List α) = 0 := rfl
theorem Uh.{u_1, u_2} {α : Type u_1} {β : Type u_2} {as' : List α} (f : α → β) : List.length (List.map f as') = List.length as' := by first | exact List.length_map .. | exact List.length_map | simp
theorem Ui.{u} {α : Type u} {as' bs : List α} : List.length (as' ++ bs) = List.length as' + List.length bs := by first | exact List.length_append .. | exact List.length_append | simp
theorem Uj.{u} {α : Type u} {as' : List α} {i : Nat} {a : α} : List.length (List.set as' i a) = List.length as' := by first | exact List.length_set .. | exact List.length_set | simp
theorem Uk.{u} {α : Type u} {l : List α} : List.drop 0 l = l := by first | exact List.drop_zero .. | exact List.drop_zero | simp
theorem Ul.{u} {α : Type u} {a : α} {l : List α} {i : Nat} : List.drop (i + 1) (a :: l) = List.drop i l := by first | exact List.drop_succ_cons .. | exact List.drop_succ_cons | simp
theorem Um.{u} {α : Type u} {i : Nat} : List.drop i ([] : List α) = [] := by first | exact List.drop_nil .. | exact List.drop_nil | simp
theorem Un.{u} {α : Type u} {a : α} {as' : List α} {i : Nat} : List.take (i + 1) (a :: as') = a :: List.take i as' := rfl
theorem Uo.{u} {α : Type u} {l : List α} : List.take 0 l = [] := rfl
theorem Up.{u} {α : Type u} {i : Nat} : List.take i ([] : List α) = [] := by first | exact List.take_nil .. | exact List.take_nil | simp
theorem Uq.{u_1} {α : Type u_1} {l : List α} : List.take (List.length l) l = l := by first | exact List.take_length .. | exact List.take_length | simp
theorem Ur.{u, v} {α : Type u} {β : Type v} {f : α → β} {a : α} {l : List α} : List.map f (a :: l) = f a :: List.map f l := by first | exact List.map_cons .. | exact List.map_cons | simp
theorem Us.{u, v} {α : Type u} {β : Type v} {f : α → β} : List.map f [] = [] := by first | exact List.map_nil .. | exact List.map_nil | simp
theorem Ut.{u} {α : Type u} (as' : List α) : [] ++ as' = as' := rfl
theorem Uu.{u} {α : Type u} {a : α} {as' bs : List α} : a :: as' ++ bs = a :: (as' ++ bs) := rfl
theorem Uv.{u} {α : Type u} (as' : List α) : as' ++ [] = as' := by first | exact List.append_nil .. | exact List.append_nil | simp
theorem Uw.{u_1} {α' : Type u_1} {a : α'} {l : List α'} {f : α' → Bool} : List.all (a :: l) f = (f a && List.all l f) := rfl
theorem Ux.{u_1} {α' : Type u_1} {f : α' → Bool} : List.all [] f = true := rfl
theorem Uy.{u} {α : Type u} {as' : List α} : Array.toList (List.toArray as') = as' := rfl
theorem Uz.{u} {α : Type u} {xs : List α} {i : Nat} : (List.toArray xs)[i]? = xs[i]? := by first | exact List.getElem?_toArray .. | exact List.getElem?_toArray | simp
theorem V0 {n : Nat} : List.range (Nat.succ n) = List.range n ++ [n] := by first | exact List.range_succ .. | exact List.range_succ | simp
theorem V1 : List.range 0 = [] := rfl
theorem V2.{u_1, u_2} {α : Type u_1} {β : Type u_2} (a : α) (f : α → β) : Option.map f (some a) = some (f a) := rfl
theorem V3.{u_1, u_2} {α : Type u_1} {β : Type u_2} (f : α → β) : Option.map f none = none := rfl
theorem V4.{u_1, u_2} {α : Type u_1} {β : Type u_2} (a : α) (f : α → Option β) : Option.bind (some a) f = f a := rfl
theorem V5.{u_1, u_2} {α : Type u_1} {β : Type u_2} (f : α → Option β) : Option.bind none f = none := rfl
theorem V6.{u_1} {α : Type u_1} : Option.isSome (none : Option α) = false := rfl
theorem V7 (n : Nat) : Int.toNat (n : Int) = n := rfl
theorem V8 : Int.toNat 0 = 0 := rfl
theorem V9 (n : Nat) : 0 + n = n := by first | exact Nat.zero_add .. | exact Nat.zero_add | simp
theorem Va (n : Nat) : n + 0 = n := rfl
theorem Vb (n : Nat) : 0 * n = 0 := by first | exact Nat.zero_mul .. | exact Nat.zero_mul | simp
theorem Vc (n : Nat) : ¬n < 0 := by first | exact Nat.not_lt_zero .. | exact Nat.not_lt_zero | simp
theorem Vd (n : Nat) : ¬n < n := by first | exact Nat.lt_irrefl .. | exact Nat.lt_irrefl | simp
theorem Ve (n : Nat) : n < n + 1 := by first | exact Nat.lt_add_one .. | exact Nat.lt_add_one | simp
theorem Vf (b : Bool) : (b && true) = b := by first | exact Bool.and_true .. | exact Bool.and_true | simp
theorem Vg (b : Bool) : (b && false) = false := by first | exact Bool.and_false .. | exact Bool.and_false | simp
theorem Vh (b : Bool) : (true && b) = b := by first | exact Bool.true_and .. | exact Bool.true_and | simp
theorem Vi (b : Bool) : (false && b) = false := by first | exact Bool.false_and .. | exact Bool.false_and | simp
theorem Vj (b : Bool) : (b || true) = true := by first | exact Bool.or_true .. | exact Bool.or_true | simp
theorem Vk (b : Bool) : (b || false) = b := by first | exact Bool.or_false .. | exact Bool.or_false | simp
theorem Vl (b : Bool) : (true || b) = true := by first | exact Bool.true_or .. | exact Bool.true_or | simp
theorem Vm (b : Bool) : (false || b) = b := by first | exact Bool.false_or .. | exact Bool.false_or | simp
theorem Vn : (!true) = false := by first | exact Bool.not_true .. | exact Bool.not_true | simp
theorem Vo : (!false) = true := by first | exact Bool.not_false .. | exact Bool.not_false | simp
theorem Vp : (false = true) = False := by first | exact Bool.false_eq_true .. | exact Bool.false_eq_true | simp
theorem Vq (n m : Nat) : ((n + m : Nat) : Int) = (n : Int) + (m : Int) := rfl
theorem Vr (n : Nat) : n ≤ n := by first | exact Nat.le_refl .. | exact Nat.le_refl | simp
theorem Vs (a : Int) : a ≤ a := by first | exact Int.le_refl .. | exact Int.le_refl | simp
theorem Vt.{u_1} {α : Type u_1} [LT α] {x y : α} : x > y ↔ y < x := by first | exact gt_iff_lt .. | exact gt_iff_lt | simp
theorem Vu (h : Decidable True) : decide True = true := by first | exact decide_true .. | exact decide_true | simp
theorem Vv (h : Decidable False) : decide False = false := by first | exact decide_false .. | exact decide_false | simp
theorem Vw (p : Prop) : (True ∧ p) = p := by first | exact true_and .. | exact true_and | simp
theorem Vx (p : Prop) : (p ∧ True) = p := by first | exact and_true .. | exact and_true | simp
theorem Vy (p : Prop) : (False ∧ p) = False := by first | exact false_and .. | exact false_and | simp
theorem Vz (p : Prop) : (p ∧ False) = False := by first | exact and_false .. | exact and_false | simp
theorem UU0 (p : Prop) : (p ∨ False) = p := by first | exact or_false .. | exact or_false | simp
theorem UU1 (p : Prop) : (False ∨ p) = p := by first | exact false_or .. | exact false_or | simp
theorem UU2.{u_1} {α : Sort u_1} (a b : α) : (a ≠ b) = ¬a = b := rfl
theorem UU3 : (¬True) = False := by first | exact not_true_eq_false .. | exact not_true_eq_false | simp
theorem UU4 : (¬False) = True := by first | exact not_false_eq_true .. | exact not_false_eq_true | simp
theorem UU5 (p : Prop) : (p ∨ True) = True := by first | exact or_true .. | exact or_true | simp
theorem UU6 (p : Prop) : (True ∨ p) = True := by first | exact true_or .. | exact true_or | simp
theorem UU7.{u_1} {α : Sort u_1} [x' : Decidable True] (t e : α) : (if True then t else e) = t := by first | exact if_true .. | exact if_true | simp
theorem UU8.{u_1} {α : Sort u_1} [x' : Decidable False] (t e : α) : (if False then t else e) = e := by first | exact if_false .. | exact if_false | simp
theorem UU9.{u_1} {α : Type u_1} [BEq α] [ReflBEq α] {a : α} : (a == a) = true := by first | exact BEq.rfl .. | exact BEq.rfl | simp
theorem UUa.{u_1} {α : Type u_1} [BEq α] [ReflBEq α] (a : α) : (a == a) = true := by first | exact beq_self_eq_true .. | exact beq_self_eq_true | simp
end PM
end Go.Proofs.YthaekefdadccaaaDoor
