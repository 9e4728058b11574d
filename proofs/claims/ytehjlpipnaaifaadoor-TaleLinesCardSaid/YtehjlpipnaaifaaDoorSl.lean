/- What a law's walk is told of a slice of integers that came in. -/
import Derived.Test.YtehjlpipnaaifaaDoorOwn
import Derived.ChangeOld
import Derived.OpenShut
namespace Go.Proofs.YtehjlpipnaaifaaDoor.Sl
open Go.ChangeShapes Go.WideShapes Go.ChangeAt Go.RowKit

/-- A slice of integers that came in: nil, or so many cells. -/
def IsRow (k : IntKind) (w : World) (a : Option Addr) (len cap : Nat) (zs : List Int) : Prop :=
  (a = none ∧ len = 0 ∧ cap = 0 ∧ zs = []) ∨
  ∃ x, a = some x ∧ len ≤ cap ∧ cap ≤ maxLen ∧ zs.length = cap ∧ (∀ i, i < zs.length → w.cell? (x.add i) = some (.int k (zs.getD i 0))) ∧ ∀ n ∈ zs, (Lit.int k n).wf = true

/-- The elements alone, at plain addresses. -/
theorem IsRow.plain {k : IntKind} {w : World} {a : Option Addr} {len cap : Nat} {zs : List Int} (h : IsRow k w a len cap zs) :
    (zs.take len).length = len ∧ len ≤ cap ∧ cap ≤ 9223372036854775807 ∧ (len = 0 ∨ ∃ B off, a = some ⟨B, off, none⟩ ∧ B < w.heap.size ∧ ∀ i, i < len → w.cell? ⟨B, off + i, none⟩ = some (.int k ((zs.take len).getD i 0)) ∧ (Lit.int k ((zs.take len).getD i 0)).wf = true) := by
  rcases h with ⟨rfl, rfl, rfl, rfl⟩ | ⟨x, rfl, hl, hm, hz, hcell, hwf⟩
  · exact ⟨rfl, by omega, by omega, .inl rfl⟩
  · unfold maxLen at hm
    refine ⟨by rw [List.length_take]; omega, hl, hm, ?_⟩
    by_cases h0 : len = 0
    · exact .inl h0
    · right
      obtain ⟨b, off, spot⟩ := x
      have hc := hcell 0 (by omega)
      have hspot : spot = none := by simpa [Addr.add] using World.cell?_spot hc
      subst hspot
      refine ⟨b, off, rfl, World.block_lt_of_cell? w ⟨b, off, none⟩ (by simpa [Addr.add] using hc), fun i hi => ?_⟩
      have e : (⟨b, off, none⟩ : Addr).add i = ⟨b, off + i, none⟩ := by
        unfold Addr.add; split
        · rename_i h; subst h; rfl
        · rfl
      have hg : (zs.take len).getD i 0 = zs.getD i 0 := by simp [List.getD_eq_getElem?_getD, hi]
      rw [hg, ← e]
      refine ⟨hcell i (by omega), hwf _ ?_⟩
      rw [List.getD_eq_getElem?_getD, List.getElem?_eq_getElem (by omega)]
      exact List.getElem_mem _
end Go.Proofs.YtehjlpipnaaifaaDoor.Sl
