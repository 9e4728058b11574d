/- The teller's done. -/
import Derived.Test.YtehjlpipnaaifaaDoorTelB
namespace Go.Proofs.YtehjlpipnaaifaaDoor.Tl
open Go.ChangeShapes Go.WideShapes Go.ChangeAt Go.RowKit
set_option linter.unusedVariables false
set_option linter.unusedSimpArgs false
set_option maxRecDepth 100000
set_option maxHeartbeats 1000000

def good (l : List Tx) (b : Nat) : Bool := (l[b - 1]?.map (·.st)) == some 3
theorem clo {w : World} {base gt : Nat} {lv : Value} {its : List It} {last : Nat} (h : Tel w base gt lv its last) (hm : its.length ≤ 20000) (B : Nat) (hB : w.cell? ⟨B, 0, none⟩ = some (.pointer (some ⟨gt, 0, none⟩)))
    (b : Nat) (hb1 : 1 ≤ b) (hb2 : b ≤ its.length) :
    Calls Tryd.prog 31 #[.int .i64 (b : Int), .pointer (some ⟨B, 0, none⟩)] w fun e w' => e = .returned (.bool (!good (xs its) b)) ∧ w = w' := by
  obtain ⟨j, rfl⟩ : ∃ j, b = j + 1 := ⟨b - 1, by omega⟩
  obtain ⟨a, cap, rfl, hc1, hc2, hat⟩ := h.form
  have hj : its[j]? = some its[j] := List.getElem?_eq_getElem (by omega)
  obtain ⟨g, rfl, hcell⟩ := hat j _ hj
  have k0 := h.c0
  have y1 := (h.all _ (List.mem_of_getElem? hj)).c1
  have hgd : good (xs its) (j + 1) = (its[j].x.st == 3) := by
    unfold good
    rw [Nat.add_sub_cancel, xs_at hj]
    simp
  rw [hgd]
  generalize its[j] = y at *
  obtain ⟨n, hn⟩ : ∃ n : Int, n = ((j + 1 : Nat) : Int) := ⟨_, rfl⟩
  rw [← hn]
  have hw3 : IntKind.i64.wrap (n - 1) = (j : Int) := by rw [IntKind.wrap_i64]; omega
  have b5 : (0 : Int) ≤ (j : Int) := by omega
  have b6 : (j : Int) < (its.length : Int) := by omega
  clear hat hj hgd hb1 hb2 hm hn
  generalize its.length = len at *
  by_cases e1 : y.x.st = 3
  · rw [e1] at y1 ⊢
    clear e1
    go_enter Tryd.func31, Tryd.ntmps31
    go_wp2
    go_ret
    exact ⟨rfl, rfl⟩
  · have e2 : (y.x.st == 3) = false := by simpa using e1
    rw [e2]
    obtain ⟨Y, hY⟩ : ∃ Y : Int, Y = (y.x.st : Int) := ⟨_, rfl⟩
    rw [← hY] at y1
    have d1 : (Y == 3) = false := by simp; omega
    have d2 : decide (Y = 3) = false := by simp; omega
    have d3 : (Y != 3) = true := by simp; omega
    clear hY e1 e2
    go_enter Tryd.func31, Tryd.ntmps31
    go_wp2
    go_ret
    exact ⟨rfl, rfl⟩

end Go.Proofs.YtehjlpipnaaifaaDoor.Tl
