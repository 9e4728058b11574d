/- The teller's small functions: get, time. -/
import Derived.Test.YtehjlpipnaaifaaDoorTel
import Derived.Test.YtehjlpipnaaifaaDoorOwnR
import Derived.WalkKit
import Derived.ProofKit
import Derived.LoopTactic
import Derived.Lib.Hide
import Derived.Deep.QuietTactic
import Derived.BigQuiet
import Derived.ChangeOld
import Derived.WalkSmall
import Derived.StillTailTactics
namespace Go.Proofs.YtehjlpipnaaifaaDoor.Tl
open Go.ChangeShapes Go.WideShapes Go.ChangeAt Go.RowKit
set_option linter.unusedVariables false
set_option linter.unusedSimpArgs false
set_option maxRecDepth 100000

theorem Tel.c0 {w : World} {base gt : Nat} {lv : Value} {its : List It} {last : Nat} (h : Tel w base gt lv its last) : w.cell? ⟨gt, 0, none⟩ = some lv := by
  rw [cell_of_row w gt 0 _ _ _ h.te]; rfl
theorem Tel.c1 {w : World} {base gt : Nat} {lv : Value} {its : List It} {last : Nat} (h : Tel w base gt lv its last) : w.cell? ⟨gt, 1, none⟩ = some (.int .u64 (last : Int)) := by
  rw [cell_of_row w gt 1 _ _ _ h.te]; rfl
theorem ItOk.c0 {w : World} {base : Nat} {i : It} (h : ItOk w base i) : w.cell? ⟨i.p, 0, none⟩ = some (.int .u64 (i.x.fin : Int)) := by
  rw [cell_of_row w i.p 0 _ _ _ h.blk]; rfl
theorem ItOk.c1 {w : World} {base : Nat} {i : It} (h : ItOk w base i) : w.cell? ⟨i.p, 1, none⟩ = some (.int .i64 (i.x.st : Int)) := by
  rw [cell_of_row w i.p 1 _ _ _ h.blk]; rfl
theorem ItOk.c2 {w : World} {base : Nat} {i : It} (h : ItOk w base i) : w.cell? ⟨i.p, 2, none⟩ = some i.v := by
  rw [cell_of_row w i.p 2 _ _ _ h.blk]; rfl
/-- The row's form. -/
theorem Tel.form {w : World} {base gt : Nat} {lv : Value} {its : List It} {last : Nat} (h : Tel w base gt lv its last) :
    ∃ a cap, lv = .slice a its.length cap ∧ its.length ≤ cap ∧ cap ≤ 9223372036854775807 ∧ ∀ i it, its[i]? = some it → ∃ g, a = some ⟨g, 0, none⟩ ∧ w.cell? ⟨g, i, none⟩ = some (.pointer (some ⟨it.p, 0, none⟩)) := by
  rcases h.row.2 with ⟨h0, hn⟩ | ⟨g, cap, cur, h1, h2, h3, h4, h5, h6, h7⟩
  · refine ⟨none, 0, by rw [hn]; exact h0, by omega, by omega, fun i it hi => ?_⟩
    have := (List.getElem?_eq_some_iff.1 hi).1
    omega
  · have hm := h5
    unfold maxLen at hm
    refine ⟨some ⟨g, 0, none⟩, cap, h1, h4, hm, fun i it hi => ⟨g, rfl, ?_⟩⟩
    subst h1
    have hil := (List.getElem?_eq_some_iff.1 hi).1
    rw [h.row.cellAt i (by omega)]
    unfold ptrs
    rw [List.getElem?_map, hi]
    rfl
def xs (its : List It) : List Tx := its.map It.x
theorem xs_at {its : List It} {i : Nat} {it : It} (h : its[i]? = some it) : (xs its)[i]? = some it.x := by unfold xs; rw [List.getElem?_map, h]; rfl
theorem xs_len (its : List It) : (xs its).length = its.length := by simp [xs]

theorem get_some {w : World} {base gt : Nat} {lv : Value} {its : List It} {last : Nat} (h : Tel w base gt lv its last) (i : Nat) (it : It) (hi : its[i]? = some it) (hs : it.x.st = 1) (hm : its.length ≤ 20000) :
    Calls Tryd.prog 19 #[.pointer (some ⟨gt, 0, none⟩), .int .i64 ((i : Int) + 1)] w fun e w' => e = .returned (.pointer (some ⟨it.p, 0, none⟩)) ∧ w = w' := by
  obtain ⟨a, cap, rfl, hc1, hc2, hat⟩ := h.form
  obtain ⟨g, rfl, hcell⟩ := hat i it hi
  have hil := (List.getElem?_eq_some_iff.1 hi).1
  have k0 := h.c0
  have k1 := (h.all it (List.mem_of_getElem? hi)).c1
  rw [hs] at k1
  obtain ⟨id, hid⟩ : ∃ id : Int, id = (i : Int) + 1 := ⟨_, rfl⟩
  rw [← hid]
  have b1 : decide (id < 1) = false := by simp; omega
  have b2 : decide ((its.length : Int) < id) = false := by simp; omega
  have b3 : IntKind.i64.wrap (id - 1) = (i : Int) := by rw [IntKind.wrap_i64]; omega
  have b4 : (i : Int) < (its.length : Int) := by omega
  have b5 : (0 : Int) ≤ (i : Int) := by omega
  clear hat hm hs hid
  generalize its.length = len at *
  go_enter Tryd.func19, Tryd.ntmps19
  go_wp2
  go_ret
  exact ⟨rfl, rfl⟩
theorem get_none {w : World} {base gt : Nat} {lv : Value} {its : List It} {last : Nat} (h : Tel w base gt lv its last) (id : Int) (hg : getM (xs its) id = none) (hm : its.length ≤ 20000) :
    Calls Tryd.prog 19 #[.pointer (some ⟨gt, 0, none⟩), .int .i64 id] w fun e w' => e = .returned (.pointer none) ∧ w = w' := by
  obtain ⟨a, cap, rfl, hc1, hc2, hat⟩ := h.form
  have k0 := h.c0
  by_cases l1 : id < 1
  · clear hat hm hg
    have b1 : decide (id < 1) = true := by simpa using l1
    go_enter Tryd.func19, Tryd.ntmps19
    go_wp2
    go_ret
    exact ⟨rfl, rfl⟩
  · have b1 : decide (id < 1) = false := by simpa using l1
    by_cases l2 : (its.length : Int) < id
    · have b2 : decide ((its.length : Int) < id) = true := by simpa using l2
      clear hat hm hg
      generalize its.length = len at *
      go_enter Tryd.func19, Tryd.ntmps19
      go_wp2
      go_ret
      exact ⟨rfl, rfl⟩
    · obtain ⟨i, hi⟩ : ∃ i : Nat, id - 1 = i := ⟨(id - 1).toNat, by omega⟩
      have hil : i < its.length := by omega
      have hie : its[i]? = some its[i] := List.getElem?_eq_getElem hil
      obtain ⟨g, rfl, hcell⟩ := hat i _ hie
      have k1 := (h.all _ (List.mem_of_getElem? hie)).c1
      generalize its[i] = it at *
      have hs : it.x.st ≠ 1 := by
        intro hs
        unfold getM at hg
        rw [if_neg (by rw [xs_len]; omega), show (id - 1).toNat = i by omega, xs_at hie] at hg
        simp [hs] at hg
      have b2 : decide ((its.length : Int) < id) = false := by simpa using l2
      have b3 : IntKind.i64.wrap (id - 1) = (i : Int) := by rw [IntKind.wrap_i64]; omega
      have b4 : (i : Int) < (its.length : Int) := by omega
      have b5 : (0 : Int) ≤ (i : Int) := by omega
      have b6 : ((it.x.st : Int) == 1) = false := by simp; omega
      have b7 : ((it.x.st : Int) = 1) = False := by simp; omega
      generalize (it.x.st : Int) = st at *
      clear hat hm hg hie l1 l2 hs
      generalize its.length = len at *
      go_enter Tryd.func19, Tryd.ntmps19
      go_wp2
      go_ret
      exact ⟨rfl, rfl⟩
theorem time_yes {w : World} {base gt : Nat} {lv : Value} {its : List It} {last : Nat} (h : Tel w base gt lv its last) (n : Nat) (hn : last < n) :
    Calls Tryd.prog 18 #[.pointer (some ⟨gt, 0, none⟩), .int .u64 (n : Int)] w fun e w' => e = .returned (.bool true) ∧ w.setCell ⟨gt, 1, none⟩ (.int .u64 (n : Int)) = w' := by
  have k1 := h.c1
  have fz := frozen_of_row w gt 1 _ _ h.te
  have b1 : decide ((n : Int) ≤ (last : Int)) = false := by simp; omega
  have b2 : ¬ (n : Int) ≤ (last : Int) := by omega
  go_enter Tryd.func18, Tryd.ntmps18
  go_wp2
  go_ret
  exact ⟨rfl, rfl⟩
theorem time_no {w : World} {base gt : Nat} {lv : Value} {its : List It} {last : Nat} (h : Tel w base gt lv its last) (n : Nat) (hn : ¬ last < n) :
    Calls Tryd.prog 18 #[.pointer (some ⟨gt, 0, none⟩), .int .u64 (n : Int)] w fun e w' => e = .returned (.bool false) ∧ w = w' := by
  have k1 := h.c1
  have fz := frozen_of_row w gt 1 _ _ h.te
  have b1 : decide ((n : Int) ≤ (last : Int)) = true := by simp; omega
  have b2 : (n : Int) ≤ (last : Int) := by omega
  go_enter Tryd.func18, Tryd.ntmps18
  go_wp2
  go_ret
  exact ⟨rfl, rfl⟩
end Go.Proofs.YtehjlpipnaaifaaDoor.Tl
