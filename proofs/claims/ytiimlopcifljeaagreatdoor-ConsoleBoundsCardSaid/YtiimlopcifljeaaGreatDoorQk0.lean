import Derived.OrdersHeld
import Derived.Lib.Hide
namespace Go.Proofs.YtiimlopcifljeaaGreatDoor.Em
open Go.RowKit
theorem zqa {α : Type _} {xs : List α} {i : Nat} (h : i < xs.toArray.size) : xs.toArray[i] = xs[i]'(by simpa using h) := rfl
theorem zqb {α : Type _} (a : α) (l : List α) (i : Nat) (h : i + 1 < (a :: l).length) : (a :: l)[i + 1] = l[i]'(by simpa using h) := rfl
theorem zqc {α : Type _} (a : α) (l : List α) (h : 0 < (a :: l).length) : (a :: l)[0] = a := rfl
theorem zqd {α : Type _} (l : List α) (i : Nat) (a : α) : l.toArray.setIfInBounds i a = (l.set i a).toArray := List.setIfInBounds_toArray l i a
theorem zqe {α : Type _} {x : α} {xs : List α} {a : α} : (x :: xs).set 0 a = a :: xs := rfl
theorem zqf {α : Type _} {x : α} {xs : List α} {i : Nat} {a : α} : (x :: xs).set (i + 1) a = x :: xs.set i a := rfl
theorem zH {p : Prop} (h : p) : Hid p := h
theorem zA {a b : Prop} (h : a) (k : b) : a ∧ b := ⟨h, k⟩
theorem zqt {P : Program} {ops : Array Oper} {Q : Exit → Act → World → Prop} {md : Region.Mode} {S : World → Prop} {i : Nat} {oi : Oper} {v : Value} {fuel : Nat} {listed : Array Bool} {a : Act} {w : World} (hi : ops[i]? = some oi)
    (hS : S w) (h : wpAnyH P md ops Q S fuel (listed.setIfInBounds i true) (a.put oi.dst v) w)
    (hy : ∀ w, S w → (execOp a.eval oi).run P w = .ok (.value v) w := by intro w hSw; (try dsimp only at hSw); go_simp; (try with_reducible rfl))
    (hw : Region.wanted oi (yielded ops a.tmps) = true := by rfl)
    (hb : (Region.noSelect ops && (Region.free md ops listed i && (Region.ready md ops listed).contains i)) = true := by kernel_rfl)
    (hQ : ∀ c a w, Q (.panic c) (a.put oi.dst v) w → Q (.panic c) a w := by exact fun _ _ _ h => h) : wpAnyH P md ops Q S (fuel + 1) listed a w := by
  rw [Bool.and_eq_true, Bool.and_eq_true] at hb
  exact wpAnyH_take hi hb.1 hb.2.1 hb.2.2 hQ (Or.inl ⟨hw, hy⟩) hS h
theorem zta {α : Type _} {n : Nat} {a : α} {l : List α} : (a :: l).take (n + 1) = a :: l.take n := rfl
theorem ztb {α : Type _} {l : List α} : l.take 0 = [] := List.take_zero
theorem ztc {α : Type _} {n : Nat} {a : α} {l : List α} : (a :: l).drop (n + 1) = l.drop n := rfl
theorem ztd {α : Type _} {l : List α} : l.drop 0 = l := List.drop_zero
theorem zeT {x c : Nat} {ci : Int} (h : x = c) (hc : ci = (c : Int) := by rfl) : ((x : Int) == ci) = true ∧ ((x : Int) = ci) = True ∧ (x = c) = True ∧ (x == c) = true ∧ ((x : Int) != ci) = false := by subst h; subst hc; simp
theorem zeF {x c : Nat} {ci : Int} (h : ¬ x = c) (hc : ci = (c : Int) := by rfl) : ((x : Int) == ci) = false ∧ ((x : Int) = ci) = False ∧ (x = c) = False ∧ (x == c) = false ∧ ((x : Int) != ci) = true := by
  subst hc
  have : ¬ (x : Int) = (c : Int) := by omega
  simp [h, this]
theorem zlt {x c : Nat} {xi ci : Int} (h : x < c) (hx : xi = (x : Int) := by rfl) (hc : ci = (c : Int) := by rfl) : decide (xi < ci) = true ∧ (xi < ci) = True ∧ (x < c) = True ∧ decide (x < c) = true := by subst hx; subst hc; simp [h]
theorem zlf {x c : Nat} {xi ci : Int} (h : ¬ x < c) (hx : xi = (x : Int) := by rfl) (hc : ci = (c : Int) := by rfl) : decide (xi < ci) = false ∧ (xi < ci) = False ∧ (x < c) = False ∧ decide (x < c) = false := by
  subst hx; subst hc
  have : c ≤ x := by omega
  simp [this]
theorem zmt {x c : Nat} {xi ci : Int} (h : x ≤ c) (hx : xi = (x : Int) := by rfl) (hc : ci = (c : Int) := by rfl) : decide (xi ≤ ci) = true ∧ (xi ≤ ci) = True ∧ (x ≤ c) = True ∧ decide (x ≤ c) = true := by subst hx; subst hc; simp [h]
theorem zmf {x c : Nat} {xi ci : Int} (h : ¬ x ≤ c) (hx : xi = (x : Int) := by rfl) (hc : ci = (c : Int) := by rfl) : decide (xi ≤ ci) = false ∧ (xi ≤ ci) = False ∧ (x ≤ c) = False ∧ decide (x ≤ c) = false := by
  subst hx; subst hc
  have : c < x := by omega
  simp [this]
inductive Zi where
  | mk
inductive Zu where
  | mk
def zi : Zi := .mk
def zu : Zu := .mk
instance : CoeFun Zi (fun _ => Int → Value) := ⟨fun _ => Value.int .i64⟩
instance : CoeFun Zu (fun _ => Int → Value) := ⟨fun _ => Value.int .u64⟩
end Go.Proofs.YtiimlopcifljeaaGreatDoor.Em
