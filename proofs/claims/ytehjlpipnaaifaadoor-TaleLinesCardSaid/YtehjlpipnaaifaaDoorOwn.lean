/- Small lemmas on owned rows and kept worlds. -/
import Derived.Test.YtehjlpipnaaifaaDoorProg
import Derived.WalkKit
import Derived.ProofKit
import Derived.Laws.AppendOwn
import Derived.Laws.NewBlocks
import Derived.Laws.CopyOwn
import Derived.Laws.OwnMore
namespace Go.Proofs.YtehjlpipnaaifaaDoor.Ow
open Go.ChangeShapes Go.WideShapes Go.ChangeAt Go.RowKit

theorem own_below {w w1 : World} {base : Nat} {e : TypeId} {size : Nat} {v : Value} {n : Nat} {xs : List Value} (h : w.ownsRow base e size v n xs) (hb : Below w.heap.size w w1) : w1.ownsRow base e size v n xs := by
  refine ⟨h.1, ?_⟩
  rcases h.2 with h0 | ⟨g, cap, cur, h1, h2, h3, h4⟩
  · exact .inl h0
  · refine .inr ⟨g, cap, cur, h1, h2, ?_, h4⟩
    have hlt : g < w.heap.size := (Array.getElem?_eq_some_iff.1 h3).1
    rw [hb.block g hlt, h3]

/-- A slice that reads as so many cells (read only). -/
def Row (w : World) (base size : Nat) (v : Value) (xs : List Value) : Prop :=
  ∃ a n cap, v = .slice a n cap ∧ xs.length = n * size ∧ n ≤ cap ∧ cap ≤ maxLen ∧ (n = 0 ∨ ∃ g off, a = some ⟨g, off, none⟩ ∧ base ≤ g ∧ g < w.heap.size ∧ ∀ j, j < n * size → w.cell? ⟨g, off + j, none⟩ = xs[j]?)
theorem Row.below {w w1 : World} {base size : Nat} {v : Value} {xs : List Value} (h : Row w base size v xs) (hb : Below w.heap.size w w1) : Row w1 base size v xs := by
  obtain ⟨a, n, cap, h1, h2, h3, h4, h5⟩ := h
  refine ⟨a, n, cap, h1, h2, h3, h4, ?_⟩
  rcases h5 with h5 | ⟨g, off, e1, e2, e3, e4⟩
  · exact .inl h5
  · refine .inr ⟨g, off, e1, e2, Nat.lt_of_lt_of_le e3 hb.size, fun j hj => ?_⟩
    rw [hb.cell (p := ⟨g, off + j, none⟩) e3]
    exact e4 j hj
theorem own_form {w : World} {base : Nat} {e : TypeId} {size : Nat} {v : Value} {n : Nat} {xs : List Value} (h : w.ownsRow base e size v n xs) : ∃ a cap, v = .slice a n cap ∧ n ≤ cap ∧ cap ≤ 9223372036854775807 ∧ Row w base size (.slice a n n) xs := by
  rcases h.2 with ⟨h0, hn⟩ | ⟨g, cap, cur, h1, h2, h3, h4, h5, h6, h7⟩
  · subst hn; exact ⟨none, 0, h0, by omega, by omega, none, 0, 0, rfl, h.1, by omega, by unfold maxLen; omega, .inl rfl⟩
  · have hm := h5
    unfold maxLen at hm
    refine ⟨some ⟨g, 0, none⟩, cap, h1, h4, hm, some ⟨g, 0, none⟩, n, n, rfl, h.1, by omega, by omega, .inr ⟨g, 0, rfl, h2, (Array.getElem?_eq_some_iff.1 h3).1, fun j hj => ?_⟩⟩
    subst h1
    rw [Nat.zero_add]
    exact h.cellAt j hj

/-- The cells of a block that was just laid. -/
theorem new_row (w : World) (cs : List Value) (T : TypeId) (g : Nat) (hg : g = w.heap.size) (j : Nat) (u : Value) (h : cs[j]? = some u) : (w.alloc (.cells cs.toArray T)).cell? ((⟨g, 0, none⟩ : Addr).add j) = some u := by
  subst hg
  have e : (⟨w.heap.size, 0, none⟩ : Addr).add j = ⟨w.heap.size, j, none⟩ := by simp [Addr.add]; exact fun h => h.symm
  rw [e, World.cell?_alloc_at _ _ _ _ rfl]
  simpa using h
theorem grown_below {w w1 w2 : World} {base : Nat} {e : TypeId} {size : Nat} {v : Value} {n : Nat} {xs : List Value} (h : w1.ownsRow base e size v n xs) (hb : Below base w w1) (hs : base ≤ w1.heap.size) (hg : w1.grownBy w2 v.ownBlock) : Below base w w2 :=
  hb.grown hg hs (fun k hk => (h.lt k hk).1)

theorem below_base {w w1 w2 : World} (h : Below w.heap.size w w1) (k : Below w1.heap.size w1 w2) : Below w.heap.size w w2 := h.trans (k.mono h.size)
end Go.Proofs.YtehjlpipnaaifaaDoor.Ow
