/- Story's list of events, and its states, as they lie in memory. -/
import Derived.Test.YtehjlpipnaaifaaDoorDlC
import Derived.Test.YtehjlpipnaaifaaDoorBits
namespace Go.Proofs.YtehjlpipnaaifaaDoor.Tl
open Go.ChangeShapes Go.WideShapes Go.ChangeAt Go.RowKit
set_option linter.unusedVariables false
set_option linter.unusedSimpArgs false
set_option maxRecDepth 100000
set_option maxHeartbeats 1000000

/-- An event's pairs: none, or one in a block of its own. -/
def PrB (w : World) (e : Er) (ps : List (Int × Int)) : Prop :=
  (e.pa = none ∧ e.pl = 0 ∧ e.pc = 0 ∧ ps = []) ∨ ∃ g x y, e.pa = some ⟨g, 0, none⟩ ∧ e.pl = 1 ∧ e.pc = 1 ∧ ps = [(x, y)] ∧ ((0 ≤ x ∧ x < 100) ∧ (0 ≤ y ∧ y < 100)) ∧ w.heap[g]? = some (.cells #[.int .i64 x, .int .i64 y] 51 (0, 0))
def KeptP (w w' : World) : Prop := ∀ (k : Nat) cs f, w.heap[k]? = some (.cells cs 51 f) → w'.heap[k]? = some (.cells cs 51 f)
theorem PrB.keep {w w' : World} {e : Er} {ps : List (Int × Int)} (h : PrB w e ps) (hk : KeptP w w') : PrB w' e ps := by
  rcases h with h | ⟨g, x, y, h1, h2, h3, h4, h5, h6⟩
  · exact .inl h
  · exact .inr ⟨g, x, y, h1, h2, h3, h4, h5, hk _ _ _ h6⟩
theorem KeptP.below {w w' : World} (h : Below w.heap.size w w') : KeptP w w' := fun k cs f hk => by rw [h.block k (lt_of hk)]; exact hk
theorem PrB.prs {w : World} {e : Er} {ps : List (Int × Int)} (h : PrB w e ps) : Prs w e ps := by
  rcases h with ⟨h1, h2, h3, rfl⟩ | ⟨g, x, y, h1, h2, h3, rfl, h5, h6⟩
  · exact ⟨by rw [h2]; rfl, by omega, by omega, by omega, fun p hp => (by cases hp), .inl h2⟩
  · refine ⟨by rw [h2]; rfl, by omega, by omega, by omega, fun p hp => by obtain rfl := List.mem_singleton.1 hp; exact h5, .inr ⟨g, 0, h1, lt_of h6, fun i p hp => ?_⟩⟩
    have hi : i = 0 := by have := (List.getElem?_eq_some_iff.1 hp).1; simpa using this
    subst hi
    obtain rfl : (x, y) = p := by simpa using hp
    exact ⟨by rw [cell_of_row w g _ _ _ _ h6]; rfl, by rw [cell_of_row w g _ _ _ _ h6]; rfl⟩
theorem PrB.nil {w : World} {e : Er} {ps : List (Int × Int)} (h : PrB w e ps) : e.pa = none → e.pl = 0 ∧ e.pc = 0 := by
  rcases h with ⟨h1, h2, h3, _⟩ | ⟨g, x, y, h1, _⟩
  · exact fun _ => ⟨h2, h3⟩
  · intro h; rw [h1] at h; cases h

structure StI (w0 : World) (g6 : Nat) (w : World) (v : Value) (l : List (Er × List (Int × Int))) (m : Nat) : Prop where
  hb : w0.heap.size ≤ g6
  st : ∃ cs : Array Value, w.heap[g6]? = some (.cells cs 48 (0, 0)) ∧ cs.size = 30 ∧ ∀ j, j < 30 → ∃ z, cs[j]? = some (.int .i64 z)
  row : w.ownsRow w0.heap.size 30 12 v l.length (flat (l.map Prod.fst))
  len : l.length ≤ m
  all : ∀ p, p ∈ l → Sm p.1 ∧ PrB w p.1 p.2
  bel : Below w0.heap.size w0 w
theorem StI.more {w0 w : World} {g6 m : Nat} {v : Value} {l : List (Er × List (Int × Int))} (h : StI w0 g6 w v l m) : StI w0 g6 w v l (m + 1) := ⟨h.hb, h.st, h.row, Nat.le_succ_of_le h.len, h.all, h.bel⟩
theorem StI.cell {w0 w : World} {g6 m : Nat} {v : Value} {l : List (Er × List (Int × Int))} (h : StI w0 g6 w v l m) (j : Nat) (hj : j < 30) : (∃ z, w.cell? ⟨g6, j, none⟩ = some (.int .i64 z)) ∧ w.frozen? ⟨g6, j, none⟩ = false := by
  obtain ⟨cs, h1, h2, h3⟩ := h.st
  obtain ⟨z, hz⟩ := h3 j hj
  exact ⟨⟨z, by rw [cell_of_row w g6 j _ _ _ h1]; exact hz⟩, frozen_of_row w g6 j _ _ h1⟩
theorem StI.lt {w0 w : World} {g6 m : Nat} {v : Value} {l : List (Er × List (Int × Int))} (h : StI w0 g6 w v l m) : g6 < w.heap.size := lt_of h.st.choose_spec.1
theorem StI.store {w0 w : World} {g6 m : Nat} {v : Value} {l : List (Er × List (Int × Int))} (h : StI w0 g6 w v l m) (j : Nat) (z : Int) : StI w0 g6 (w.setCell ⟨g6, j, none⟩ (.int .i64 z)) v l m := by
  obtain ⟨cs, h1, h2, h3⟩ := h.st
  refine ⟨h.hb, ⟨cs.setIfInBounds j (.int .i64 z), by rw [heap_setCell_same w g6 j _ _ _ h1], by simpa using h2, fun i hi => ?_⟩, own_same h.row fun g hg => heap_setCell_other _ _ _ _ (by obtain ⟨cur, hcur⟩ := own_blk h.row hg; exact ty_ne hcur h1 (by decide)), h.len, fun p hp => ⟨(h.all p hp).1, (h.all p hp).2.keep fun k cs f hk => ?_⟩, h.bel.setCell (p := ⟨g6, j, none⟩) h.hb _⟩
  · rw [Array.getElem?_setIfInBounds]
    split
    · rename_i e; subst e; rw [if_pos (by omega)]; exact ⟨z, rfl⟩
    · exact h3 i hi
  · rw [heap_setCell_other _ _ _ _ (ty_ne hk h1 (by decide))]; exact hk
theorem StI.push {w0 w wA w2 : World} {g6 m : Nat} {v v' : Value} {l : List (Er × List (Int × Int))} (h : StI w0 g6 w v l m) (hA : Below w.heap.size w wA) (e : Er) (ps : List (Int × Int)) (hs : Sm e) (hp : PrB wA e ps) {o : Obj}
    (hown : w2.ownsRow w0.heap.size 30 12 v' (l.length + 1) (flat (l.map Prod.fst) ++ evC e)) (hg : (wA.alloc o).grownBy w2 v.ownBlock) : StI w0 g6 w2 v' (l ++ [(e, ps)]) (m + 1) := by
  obtain ⟨cs, h1, h2, h3⟩ := h.st
  have hk : ∀ k, k < wA.heap.size → some k ≠ v.ownBlock → w2.heap[k]? = wA.heap[k]? := fun k hk hne => by
    rw [hg.block k (by simp; omega) hne, heap_alloc_old _ _ hk]
  have hrow : ∀ g, v.ownBlock = some g → ∃ cur, w.heap[g]? = some (.cells cur 30 (0, 0)) := fun g hg => own_blk h.row hg
  have kp : KeptP wA w2 := fun k cs f hkk => by
    rw [hk k (lt_of hkk) (fun e => ?_)]; exact hkk
    obtain ⟨cur, hcur⟩ := hrow k e.symm
    have hc2 : wA.heap[k]? = some (.cells cur 30 (0, 0)) := by rw [hA.block k (lt_of hcur)]; exact hcur
    exact ty_ne hkk hc2 (by decide) rfl
  refine ⟨h.hb, ⟨cs, ?_, h2, h3⟩, ?_, ?_, ?_, ?_⟩
  · have hl := lt_of h1
    rw [hk g6 (Nat.lt_of_lt_of_le hl hA.size) (fun e => ?_), hA.block g6 hl]; exact h1
    obtain ⟨cur, hcur⟩ := hrow g6 e.symm
    exact ty_ne hcur h1 (by decide) rfl
  · rw [List.map_append, List.length_append]
    exact (flat_snoc (l.map Prod.fst) e) ▸ hown
  · have := h.len; simp; omega
  · intro p hpm
    rcases List.mem_append.1 hpm with hpm | hpm
    · exact ⟨(h.all p hpm).1, ((h.all p hpm).2.keep (KeptP.below hA)).keep kp⟩
    · obtain rfl := List.mem_singleton.1 hpm
      exact ⟨hs, hp.keep kp⟩
  · have hs2 : w0.heap.size ≤ wA.heap.size := Nat.le_trans h.bel.size hA.size
    exact ((h.bel.trans (hA.mono h.bel.size)).alloc hs2 _).grown hg (by simp; omega) (fun k hk => (h.row.lt k hk).1)
end Go.Proofs.YtehjlpipnaaifaaDoor.Tl
