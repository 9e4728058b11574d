/- Story: the loop and its relation. -/
import Derived.Test.YtehjlpipnaaifaaDoorStoA
import Derived.Deep.CutRange
namespace Go.Proofs.YtehjlpipnaaifaaDoor.Tl
open Go.ChangeShapes Go.WideShapes Go.ChangeAt Go.RowKit
set_option linter.unusedVariables false
set_option linter.unusedSimpArgs false
set_option maxRecDepth 1000000
set_option maxHeartbeats 100000000

def firstLoop : Code → Option Code
  | .loop c => some c
  | .seq a b => match firstLoop a with
    | some c => some c
    | none => firstLoop b
  | .block _ c => firstLoop c
  | .scope c => firstLoop c
  | .cond _ a b => match firstLoop a with
    | some c => some c
    | none => firstLoop b
  | _ => none
noncomputable def storyBody : Code := (Tryd.f9.body.bind firstLoop).getD .skip
def StRel (w : World) (v n c b : Value) (wr : World) : Prop := ∃ (k nn cc : Nat) (l : List (Er × List (Int × Int))), b = .int .i64 (k : Int) ∧ n = .int .i64 (nn : Int) ∧ c = .int .u64 (cc : Int) ∧ k ≤ 60 ∧ nn ≤ 29 ∧ cc ≤ k ∧ StI w w.heap.size wr v l k
def stMu (b : Value) : Nat := match b with | .int _ i => 60 - i.toNat | _ => 0
/-- Numbers that lie in memory. -/
def Ints (w : World) (a : Option Addr) (len cap : Nat) (zs : List Int) : Prop :=
  zs.length = len ∧ len ≤ cap ∧ cap ≤ 9223372036854775807 ∧ (len = 0 ∨ ∃ B off, a = some ⟨B, off, none⟩ ∧ B < w.heap.size ∧ ∀ i, i < len → w.cell? ⟨B, off + i, none⟩ = some (.int .i64 (zs.getD i 0)))

theorem wrap64_small {x : Int} (h : 0 ≤ x ∧ x < 100000) : wrap64 x = x := by unfold wrap64; omega
theorem pick_t (Y : Int) (n : Nat) (hn : 0 < n) : ∃ τ : Nat, (bits .and .i64 Y 255).tmod (n : Int) + 1 = (τ : Int) ∧ 1 ≤ τ ∧ τ ≤ n := by
  rw [Bt.i64_and255]
  have h0 : 0 ≤ Y % 256 := by omega
  rw [Int.tmod_eq_emod_of_nonneg h0]
  have h1 := Int.emod_nonneg (Y % 256) (b := (n : Int)) (by omega)
  have h2 := Int.emod_lt_of_pos (Y % 256) (b := (n : Int)) (by omega)
  exact ⟨((Y % 256) % (n : Int) + 1).toNat, by omega, by omega, by omega⟩
end Go.Proofs.YtehjlpipnaaifaaDoor.Tl
