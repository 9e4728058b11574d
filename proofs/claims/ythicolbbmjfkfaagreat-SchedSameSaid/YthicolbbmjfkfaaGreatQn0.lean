import Derived.OrdersHeld
import Derived.Lib.Hide
import Derived.Test.YthicolbbmjfkfaaGreatProg
import Derived.WalkKit
import Derived.ProofKit
namespace Go.Proofs.YthicolbbmjfkfaaGreat
open Go.ChangeShapes Go.WideShapes Go.ChangeAt Go.RowKit
abbrev zj.{u} := @Option.some.inj.{u}
abbrev zr := @Nat.le_refl
abbrev zd := @decide_eq_true_eq
abbrev il := @Bool.and_eq_true
abbrev nK.{u} := @List.mem_cons_self.{u}
abbrev jR.{u} := @List.length_append.{u}
abbrev mM.{u} := @List.getD_eq_getElem?_getD.{u}
abbrev aV.{u} := @if_pos.{u}
abbrev aR.{u} := @if_neg.{u}
abbrev jG := @Go.IntKind.wrap_i64
abbrev zz := @Nat.zero_le
abbrev qg.{u} := @List.mem_cons_of_mem.{u}
abbrev iQ.{u,v} := @Prod.mk.injEq.{u,v}
abbrev vZ.{u} := @Option.isNone_iff_eq_none.{u}
abbrev rz.{u} := @List.length_set.{u}
abbrev gy := @Nat.le_trans
abbrev uz.{u} := @Option.isSome_iff_exists.{u}
abbrev zx.{u} := @List.getElem?_eq_getElem.{u}
abbrev qd := @Bool.or_eq_true
abbrev Qx.{u} := @List.getElem?_append_right.{u}
abbrev Cx.{u} := @List.getElem?_eq_none.{u}
abbrev oW := @Nat.le_succ
abbrev sG := @Nat.lt_of_lt_of_le
inductive Zm | mk
def zs (_ _ : Nat) : Zm := .mk
def R (_ _ : Nat) : Zm := .mk
def za (_ _ : Nat) : Zm := .mk
def J (_ _ : Nat) : Zm := .mk
def zt (_ : Int) : Zm := .mk
def zv (_ : Int) : Zm := .mk
def zb (_ : Bool) : Zm := .mk
instance {b i : Nat} : CoeDep Zm (zs b i) (Option Value) := ⟨some (.pointer (some ⟨b, i, none⟩))⟩
instance {b i : Nat} : CoeDep Zm (R b i) Value := ⟨.pointer (some ⟨b, i, none⟩)⟩
instance {b i : Nat} : CoeDep Zm (za b i) (Option Addr) := ⟨some ⟨b, i, none⟩⟩
instance {b i : Nat} : CoeDep Zm (J b i) Addr := ⟨⟨b, i, none⟩⟩
instance {x : Int} : CoeDep Zm (zt x) (Option Value) := ⟨some (.int .i64 x)⟩
instance {x : Int} : CoeDep Zm (zv x) (Option Value) := ⟨some (.int .u64 x)⟩
instance {x : Bool} : CoeDep Zm (zb x) (Option Value) := ⟨some (.bool x)⟩
def zS (_ : World) (_ _ _ _ : Nat) : Zm := .mk
def zT (_ : World) (_ _ : Nat) (_ : Int) : Zm := .mk
def zV (_ : World) (_ _ : Nat) (_ : Int) : Zm := .mk
def zB (_ : World) (_ _ : Nat) (_ : Bool) : Zm := .mk
instance {w : World} {b i c j : Nat} : CoeDep Zm (zS w b i c j) Prop := ⟨w.cell? ⟨b, i, none⟩ = some (.pointer (some ⟨c, j, none⟩))⟩
instance {w : World} {b i : Nat} {x : Int} : CoeDep Zm (zT w b i x) Prop := ⟨w.cell? ⟨b, i, none⟩ = some (.int .i64 x)⟩
instance {w : World} {b i : Nat} {x : Int} : CoeDep Zm (zV w b i x) Prop := ⟨w.cell? ⟨b, i, none⟩ = some (.int .u64 x)⟩
instance {w : World} {b i : Nat} {x : Bool} : CoeDep Zm (zB w b i x) Prop := ⟨w.cell? ⟨b, i, none⟩ = some (.bool x)⟩
inductive Zl | mk
def zk : Zl := .mk
instance : CoeFun Zl (fun _ => FuncId -> Array Value -> World -> (Ending -> World -> Prop) -> Prop) := ⟨fun _ => Calls Tryz.prog⟩
end Go.Proofs.YthicolbbmjfkfaaGreat
namespace Go.Proofs.YthicolbbmjfkfaaGreat.Em
open Go.RowKit
theorem lF {α : Type _} {xs : List α} {i : Nat} (h : i < xs.toArray.size) : xs.toArray[i] = xs[i]'(by simpa using h) := rfl
theorem lG {α : Type _} (a : α) (l : List α) (i : Nat) (h : i + 1 < (a :: l).length) : (a :: l)[i + 1] = l[i]'(by simpa using h) := rfl
theorem lH {α : Type _} (a : α) (l : List α) (h : 0 < (a :: l).length) : (a :: l)[0] = a := rfl
theorem lJ {α : Type _} (l : List α) (i : Nat) (a : α) : l.toArray.setIfInBounds i a = (l.set i a).toArray := List.setIfInBounds_toArray l i a
theorem lK {α : Type _} {x : α} {xs : List α} {a : α} : (x :: xs).set 0 a = a :: xs := rfl
theorem lL {α : Type _} {x : α} {xs : List α} {i : Nat} {a : α} : (x :: xs).set (i + 1) a = x :: xs.set i a := rfl
theorem zH {p : Prop} (h : p) : Hid p := h
theorem zA {a b : Prop} (h : a) (k : b) : a ∧ b := ⟨h, k⟩
theorem pY {P : Program} {ops : Array Oper} {Q : Exit -> Act -> World -> Prop} {md : Region.Mode} {S : World -> Prop} {i : Nat} {oi : Oper} {v : Value} {fuel : Nat} {listed : Array Bool} {a : Act} {w : World} (hi : ops[i]? = some oi)
    (hS : S w) (h : wpAnyH P md ops Q S fuel (listed.setIfInBounds i true) (a.put oi.dst v) w)
    (hy : ∀ w, S w -> (execOp a.eval oi).run P w = .ok (.value v) w := by intro w hSw; (try dsimp only at hSw); go_simp; (try with_reducible rfl))
    (hw : Region.wanted oi (yielded ops a.tmps) = true := by rfl)
    (hb : (Region.noSelect ops && (Region.free md ops listed i && (Region.ready md ops listed).contains i)) = true := by kernel_rfl)
    (hQ : ∀ c a w, Q (.panic c) (a.put oi.dst v) w -> Q (.panic c) a w := by exact fun _ _ _ h => h) : wpAnyH P md ops Q S (fuel + 1) listed a w := by
  rw [Bool.and_eq_true, Bool.and_eq_true] at hb
  exact wpAnyH_take hi hb.1 hb.2.1 hb.2.2 hQ (Or.inl ⟨hw, hy⟩) hS h
theorem jS {α : Type _} {n : Nat} {a : α} {l : List α} : (a :: l).take (n + 1) = a :: l.take n := rfl
theorem jT {α : Type _} {l : List α} : l.take 0 = [] := List.take_zero
theorem jU {α : Type _} {n : Nat} {a : α} {l : List α} : (a :: l).drop (n + 1) = l.drop n := rfl
theorem jV {α : Type _} {l : List α} : l.drop 0 = l := List.drop_zero
theorem uA {x c : Nat} {ci : Int} (h : x = c) (hc : ci = (c : Int) := by rfl) : ((x : Int) == ci) = true ∧ ((x : Int) = ci) = True ∧ (x = c) = True ∧ (x == c) = true ∧ ((x : Int) != ci) = false := by subst h; subst hc; simp
theorem rf {x c : Nat} {ci : Int} (h : ¬ x = c) (hc : ci = (c : Int) := by rfl) : ((x : Int) == ci) = false ∧ ((x : Int) = ci) = False ∧ (x = c) = False ∧ (x == c) = false ∧ ((x : Int) != ci) = true := by
  subst hc
  have : ¬ (x : Int) = (c : Int) := by omega
  simp [h, this]
theorem Tj {x c : Nat} {xi ci : Int} (h : x < c) (hx : xi = (x : Int) := by rfl) (hc : ci = (c : Int) := by rfl) : decide (xi < ci) = true ∧ (xi < ci) = True ∧ (x < c) = True ∧ decide (x < c) = true := by subst hx; subst hc; simp [h]
theorem Vf {x c : Nat} {xi ci : Int} (h : ¬ x < c) (hx : xi = (x : Int) := by rfl) (hc : ci = (c : Int) := by rfl) : decide (xi < ci) = false ∧ (xi < ci) = False ∧ (x < c) = False ∧ decide (x < c) = false := by
  subst hx; subst hc
  have : c <= x := by omega
  simp [this]
theorem XP {x c : Nat} {xi ci : Int} (h : x <= c) (hx : xi = (x : Int) := by rfl) (hc : ci = (c : Int) := by rfl) : decide (xi <= ci) = true ∧ (xi <= ci) = True ∧ (x <= c) = True ∧ decide (x <= c) = true := by subst hx; subst hc; simp [h]
theorem XQ {x c : Nat} {xi ci : Int} (h : ¬ x <= c) (hx : xi = (x : Int) := by rfl) (hc : ci = (c : Int) := by rfl) : decide (xi <= ci) = false ∧ (xi <= ci) = False ∧ (x <= c) = False ∧ decide (x <= c) = false := by
  subst hx; subst hc
  have : c < x := by omega
  simp [this]
inductive Zi where
  | mk
inductive Zu where
  | mk
def I : Zi := .mk
def zu : Zu := .mk
instance : CoeFun Zi (fun _ => Int -> Value) := ⟨fun _ => Value.int .i64⟩
instance : CoeFun Zu (fun _ => Int -> Value) := ⟨fun _ => Value.int .u64⟩
end Go.Proofs.YthicolbbmjfkfaaGreat.Em
