/- The teller's plain model: what it keeps; its take, of any event. -/
import Derived.Test.YtehjlpipnaaifaaDoorTelG
namespace Go.Proofs.YtehjlpipnaaifaaDoor.Tl
open Go.ChangeShapes Go.WideShapes Go.ChangeAt Go.RowKit
set_option linter.unusedVariables false
set_option linter.unusedSimpArgs false
set_option maxRecDepth 100000

/-- No more than so many, and bonds to those that are there. -/
def Wf (m : Nat) (l : List Tx) : Prop := l.length ≤ m ∧ ∀ x, x ∈ l → x.bonds.length ≤ m ∧ ∀ b, b ∈ x.bonds → 1 ≤ b ∧ b ≤ l.length
theorem Wf.nil : Wf 0 [] := ⟨by simp, fun x hx => by cases hx⟩
theorem Wf.more {m : Nat} {l : List Tx} (h : Wf m l) : Wf (m + 1) l := ⟨Nat.le_succ_of_le h.1, fun x hx => ⟨Nat.le_succ_of_le (h.2 x hx).1, (h.2 x hx).2⟩⟩
theorem Wf.set {m : Nat} {l : List Tx} (h : Wf m l) (i : Nat) (y : Tx) (hy : y.bonds.length ≤ m + 1 ∧ ∀ b, b ∈ y.bonds → 1 ≤ b ∧ b ≤ l.length) : Wf (m + 1) (l.set i y) := by
  refine ⟨by rw [List.length_set]; exact Nat.le_succ_of_le h.1, fun x hx => ?_⟩
  rw [List.length_set]
  rcases List.mem_or_eq_of_mem_set hx with hx | rfl
  · exact (h.more).2 x hx
  · exact hy
theorem Wf.push {m : Nat} {l : List Tx} (h : Wf m l) (f s : Nat) : Wf (m + 1) (l ++ [⟨f, s, []⟩]) := by
  refine ⟨by have := h.1; simp; omega, fun x hx => ?_⟩
  rcases List.mem_append.1 hx with hx | hx
  · refine ⟨Nat.le_succ_of_le (h.2 x hx).1, fun b hb => ?_⟩
    have := (h.2 x hx).2 b hb
    simp; omega
  · obtain rfl := List.mem_singleton.1 hx
    exact ⟨by simp, fun b hb => by cases hb⟩
theorem getM_at {l : List Tx} {t : Int} {i : Nat} (h : getM l t = some i) : ∃ x, l[i]? = some x ∧ x.st = 1 ∧ t = (i : Int) + 1 := by
  unfold getM at h
  split at h
  · cases h
  · rename_i h1
    split at h
    · rename_i h2
      cases h
      cases hx : l[(t - 1).toNat]? with
      | none => rw [hx] at h2; cases h2
      | some x =>
        rw [hx] at h2
        refine ⟨x, rfl, ?_, by omega⟩
        simpa using h2
    · cases h
theorem bondM_wf {m : Nat} {l l' : List Tx} (h : Wf m l) {i : Nat} {x : Tx} (hx : l[i]? = some x) {n : Nat} (hb : bondM l i x n = some l') : Wf (m + 1) l' := by
  unfold bondM at hb
  split at hb
  · cases hb
  · rename_i y hy
    have hl := (List.getElem?_eq_some_iff.1 hy).1
    split at hb
    · cases hb
    · rename_i h0
      split at hb
      · cases hb
        have k := h.2 x (List.mem_of_getElem? hx)
        refine h.set i _ ⟨by have := k.1; simp; omega, fun b hbm => ?_⟩
        rcases List.mem_append.1 hbm with hbm | hbm
        · exact k.2 b hbm
        · obtain rfl := List.mem_singleton.1 hbm
          omega
      · cases hb
theorem takeM_wf {m : Nat} {l l' : List Tx} (h : Wf m l) {last last' : Nat} {e : Ev} (ht : takeM l last e = some (l', last')) : Wf (m + 1) l' := by
  unfold takeM at ht
  split at ht
  · split at ht
    · cases ht; exact h.push _ _
    · cases ht
  · split at ht
    · cases ht
    · rename_i i hi
      split at ht
      · cases ht
      · rename_i x hx
        have k := (h.more).2 x (List.mem_of_getElem? hx)
        split at ht
        · split at ht
          · cases ht; exact h.more
          · cases ht
        · split at ht
          · split at ht
            · cases ht; exact h.set i _ k
            · cases ht
          · split at ht
            · cases hb : bondM l i x e.n with
              | none => rw [hb] at ht; cases ht
              | some l2 => rw [hb] at ht; cases ht; exact bondM_wf h hx hb
            · split at ht
              · split at ht
                · cases ht; exact h.set i _ k
                · cases ht
              · split at ht
                · cases ht; exact h.set i _ k
                · cases ht

theorem take_any {w : World} {base gt : Nat} {lv : Value} {its : List It} {last : Nat} (h : Tel w base gt lv its last) (hbase : base ≤ w.heap.size) {m : Nat} (hwf : Wf m (xs its)) (hm : m ≤ 20000) (e : Er) (hn : e.n < 18446744073709551616) :
    Calls Tryd.prog 12 #[.pointer (some ⟨gt, 0, none⟩), evV e] w (Took base gt w (xs its) last e.ev) := by
  have hl : its.length ≤ 20000 := by have := hwf.1; rw [xs_len] at this; omega
  by_cases hk : e.k = 1
  · exact take_begin h hbase hl e hk
  · cases hg : getM (xs its) e.t with
    | none => exact take_none h hbase hl e hk hg
    | some i =>
      obtain ⟨x, hx, hst, ht⟩ := getM_at hg
      have hil : i < its.length := by have := (List.getElem?_eq_some_iff.1 hx).1; rwa [xs_len] at this
      have hi : its[i]? = some its[i] := List.getElem?_eq_getElem hil
      have hxe : its[i].x = x := by have := xs_at hi; rw [hx] at this; exact (Option.some.inj this).symm
      have k := hwf.2 x (List.mem_of_getElem? hx)
      rw [xs_len] at k
      exact take_some h hbase hl e hk i its[i] hi (by rw [hxe]; exact hst) ht hn (by rw [hxe]; omega) (by rw [hxe]; exact k.2)
end Go.Proofs.YtehjlpipnaaifaaDoor.Tl
