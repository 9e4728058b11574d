/- Contract of 'same' of layer 25's laws, and of its waking test. -/
import Derived.Test.YtplfhjahdepphaaPlanF
namespace Go.Proofs.Ytplfhjahdepphaa.Plan
open Go.ChangeShapes Go.WideShapes Go.ChangeAt Go.RowKit
set_option linter.unusedVariables false
set_option linter.unusedSimpArgs false
set_option maxRecDepth 100000

/-- The cells of one entry of a row. -/
theorem row_cell {w : World} {g off : Nat} {l : List En} (h : ∀ j, j < l.length * 7 → w.cell? ⟨g, off + j, none⟩ = (flatE l)[j]?) (i : Nat) (hi : i < l.length) (d : En) :
    ∀ f, f < 7 → w.cell? ⟨g, off + (i * 7 + f), none⟩ = (cellsE (l.getD i d))[f]? := by
  intro f hf
  rw [h (i * 7 + f) (by omega)]
  have key : ∀ (l : List En) (i : Nat), i < l.length → (flatE l)[i * 7 + f]? = (cellsE (l.getD i d))[f]? := by
    intro l
    induction l with
    | nil => intro i hi; simp at hi
    | cons e l ih =>
      intro i hi
      show (cellsE e ++ flatE l)[i * 7 + f]? = _
      cases i with
      | zero =>
        rw [List.getElem?_append_left (by show 0 * 7 + f < 7; omega)]
        simp
      | succ i =>
        rw [List.getElem?_append_right (by show 7 ≤ _; omega)]
        rw [show (i + 1) * 7 + f - (cellsE e).length = i * 7 + f from by show _ - 7 = _; omega]
        rw [ih i (by simpa using hi)]
        simp
  exact key l i hi

theorem same_yes (va vb : Value) (ba bb : Nat) (l : List En) (w : World) (hA : Ow.Row w ba 7 va (flatE l)) (hB : Ow.Row w bb 7 vb (flatE l)) :
    Calls Try.prog 41 #[va, vb] w fun e w' => e = .returned (.bool true) ∧ Below w.heap.size w w' := by
  obtain ⟨a, n, cap, rfl, hn, hc, hm, ha⟩ := hA
  obtain ⟨b, n', cap', rfl, hn', hc', hm', hb⟩ := hB
  rw [flatE_length] at hn hn'
  obtain rfl : n = n' := by omega
  have hmax : n ≤ 9223372036854775807 := by unfold maxLen at hm; omega
  have HN := Lib.hid (show l.length = n by omega)
  clear hn hn' hm hm' hc hc'
  go_enter Try.func41, Try.ntmps41
  go_wp2
  go_loopw [5] (fun i wr => (∃ k : Nat, k ≤ n ∧ i = .int .i64 k) ∧ Below w.heap.size w wr) (fun i _ => n - (intOf i).toNat)
  case atStart => exact ⟨⟨0, by omega, rfl⟩, Below.refl _ _⟩
  case round =>
    obtain ⟨⟨k, hk, rfl⟩, hbel⟩ := hrel
    by_cases hlt : k < n
    · rcases ha with ha | ⟨g, off, rfl, _, hg, hcell⟩
      · omega
      rcases hb with hb | ⟨g', off', rfl, _, hg', hcell'⟩
      · omega
      have i1 : (0 : Int) ≤ (k : Int) := by omega
      have i2 : (k : Int) < (n : Int) := by omega
      have hN := HN.out
      have cA := row_cell (l := l) (fun j hj => hcell j (by omega)) k (by omega) badE
      have cB := row_cell (l := l) (fun j hj => hcell' j (by omega)) k (by omega) badE
      generalize l.getD k badE = E at *
      obtain ⟨ek, es, elv, eok, eoy, eoh, eov⟩ := E
      have kA : ∀ f, f < 7 → wr.cell? ⟨g, off + (k * 7 + f), none⟩ = (cellsE ⟨ek, es, elv, eok, eoy, eoh, eov⟩)[f]? := fun f hf => by rw [hbel.cell (p := ⟨g, off + (k * 7 + f), none⟩) hg]; exact cA f hf
      have kB : ∀ f, f < 7 → wr.cell? ⟨g', off' + (k * 7 + f), none⟩ = (cellsE ⟨ek, es, elv, eok, eoy, eoh, eov⟩)[f]? := fun f hf => by rw [hbel.cell (p := ⟨g', off' + (k * 7 + f), none⟩) hg']; exact cB f hf
      clear cA cB hcell hcell' hN
      have a0 := kA 0 (by omega)
      have a1 := kA 1 (by omega)
      have a2 := kA 2 (by omega)
      have a3 := kA 3 (by omega)
      have a4 := kA 4 (by omega)
      have a5 := kA 5 (by omega)
      have a6 := kA 6 (by omega)
      have b0 := kB 0 (by omega)
      have b1 := kB 1 (by omega)
      have b2 := kB 2 (by omega)
      have b3 := kB 3 (by omega)
      have b4 := kB 4 (by omega)
      have b5 := kB 5 (by omega)
      have b6 := kB 6 (by omega)
      clear kA kB
      simp only [Nat.add_zero, ← Nat.add_assoc] at a0 a1 a2 a3 a4 a5 a6 b0 b1 b2 b3 b4 b5 b6
      simp only [cellsE, List.getElem?_cons_zero, List.getElem?_cons_succ] at a0 a1 a2 a3 a4 a5 a6 b0 b1 b2 b3 b4 b5 b6
      go_wp2_with fail
      go_quiet (fail)
      go_wp2_with fail
      exact ⟨⟨⟨k + 1, by omega, by go_num⟩, below_drewN hbel _⟩, by simp [intOf]; omega⟩
    · go_wp2
      go_ret
      exact ⟨rfl, hbel⟩

theorem row_len {w : World} {ba : Nat} {v : Value} {l : List En} (h : Ow.Row w ba 7 v (flatE l)) : ∃ a cap, v = .slice a l.length cap := by
  obtain ⟨a, n, cap, rfl, hn, _⟩ := h
  rw [flatE_length] at hn
  obtain rfl : n = l.length := by omega
  exact ⟨a, cap, rfl⟩

theorem awake_any (w : World) : Calls Try.prog 37 #[] w fun e w' => e = .returned (.bool true) ∧ Below w.heap.size w w' := by
  have HO := Lib.hid (fun W => one_any w.heap.size 0 5 5 (by omega) (by omega) (by omega) 0 2 3 0 0 (by omega) (by omega) (by omega) (by omega) (by omega) (by omega) (by omega) (by omega) (by omega) (by omega) W)
  go_enter Try.func37, Try.ntmps37
  go_wp2_with fail
  refine (HO.out _ (by go_simp) (by go_simp) (by go_simp) (by go_simp) (by go_simp)).mono ?_
  rintro e w1 ⟨rfl, hq⟩
  have he : enE 0 2 3 0 0 = ⟨1, 2, 3, 0, 0, 0, 0⟩ := rfl
  rw [he]
  have hb : Below w.heap.size w w1 := (below_allocs1 w _).trans (hq.mono (by simp))
  clear HO hq he
  go_wp2_with fail
  have HD := Lib.hid (fun W h => decode_any (some ⟨w1.heap.size + 1, 0, none⟩) 1 1 [9] W h)
  refine (HD.out _ ⟨rfl, by omega, by omega, .inr ⟨w1.heap.size + 1, 0, rfl, by simp, fun i hi => ?_⟩⟩).mono ?_
  · obtain rfl : i = 0 := by omega
    exact ⟨by go_simp, by decide, by decide⟩
  rintro e w2 ⟨v, rfl, hrow, hq⟩
  obtain ⟨a, cap, rfl⟩ := row_len hrow
  have hl : (dec 2000 [9]).length = 1 := rfl
  rw [hl]
  have hb2 : Below w.heap.size w w2 := (hb.trans ((show Below w1.heap.size w1 _ by (repeat (first | (with_reducible exact Below.refl _ _) | ((with_reducible refine Below.setCell ?_ ?_ _); rotate_left; focus (first | (simp; done) | (simp; omega))) | (with_reducible refine below_drewN ?_ _) | (with_reducible refine Below.drew ?_) | ((with_reducible refine Below.alloc ?_ ?_ _); rotate_left; focus (first | (simp; done) | (simp; omega)))))).mono hb.size)).trans (hq.mono (by have := hb.size; simp; omega))
  clear HD hrow hq hl
  go_wp2_with fail
  go_ret
  exact ⟨rfl, hb2⟩
end Go.Proofs.Ytplfhjahdepphaa.Plan
