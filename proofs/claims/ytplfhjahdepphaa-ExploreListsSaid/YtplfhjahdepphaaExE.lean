/- Contracts of SameInts of the document's answer, and of explore.Rank. -/
import Derived.Test.YtplfhjahdepphaaExD
import Derived.Deep.QuietTactic
import Derived.BigQuiet
namespace Go.Proofs.Ytplfhjahdepphaa.Ex
open Go.ChangeShapes Go.WideShapes Go.ChangeAt Go.RowKit
set_option linter.unusedVariables false
set_option linter.unusedSimpArgs false
set_option maxRecDepth 100000

theorem ne_of_get {xs ys : List Nat} {k : Nat} (h : xs.getD k 0 ≠ ys.getD k 0) : decide (xs = ys) = false := by
  simp only [decide_eq_false_iff_not]
  rintro rfl
  exact h rfl
theorem eq_of_take {xs ys : List Nat} (h1 : xs.length = ys.length) (h : ∀ j, j < xs.length → xs.getD j 0 = ys.getD j 0) : decide (xs = ys) = true := by
  simp only [decide_eq_true_eq]
  refine List.ext_getElem h1 fun j hj hj' => ?_
  have := h j hj
  rw [List.getD_eq_getElem?_getD, List.getD_eq_getElem?_getD, List.getElem?_eq_getElem hj, List.getElem?_eq_getElem hj'] at this
  exact this

set_option maxHeartbeats 1000000 in
theorem same_any (va vb : Value) (xs ys : List Nat) (ba bb : Nat) (w : World) (hA : Ow.Row w ba 1 va (nats xs)) (hB : Ow.Row w bb 1 vb (nats ys)) :
    Calls Try.prog 51 #[va, vb] w fun e w' => e = .returned (.bool (decide (xs = ys))) ∧ Below w.heap.size w w' := by
  obtain ⟨a, n, cap, rfl, hn, hc, hm, ha⟩ := hA
  obtain ⟨b, n', cap', rfl, hn', hc', hm', hb⟩ := hB
  rw [nats_length, Nat.mul_one] at hn hn'
  unfold maxLen at hm hm'
  by_cases hne : n = n'
  · subst hne
    have HX := Lib.hid hn
    have HY := Lib.hid hn'
    have hmax : n ≤ 9223372036854775807 := by omega
    clear hn hn' hm hm' hc hc'
    go_enter Try.func51, Try.ntmps51
    go_wp2
    go_loopw [5] (fun i wr => (∃ k : Nat, k ≤ n ∧ i = .int .i64 k ∧ ∀ j, j < k → xs.getD j 0 = ys.getD j 0) ∧ Below w.heap.size w wr) (fun i _ => n - (intOf i).toNat)
    case atStart => exact ⟨⟨0, by omega, rfl, by omega⟩, Below.refl _ _⟩
    case round =>
      obtain ⟨⟨k, hk, rfl, hall⟩, hbel⟩ := hrel
      have HA := Lib.hid hall
      clear hall
      by_cases hlt : k < n
      · rcases ha with ha | ⟨g, off, rfl, _, hg, hcell⟩
        · omega
        rcases hb with hb | ⟨g', off', rfl, _, hg', hcell'⟩
        · omega
        have i1 : (0 : Int) ≤ (k : Int) := by omega
        have i2 : (k : Int) < (n : Int) := by omega
        have c := hcell k (by omega)
        rw [nats_get xs k (by rw [HX.out]; exact hlt)] at c
        have d := hcell' k (by omega)
        rw [nats_get ys k (by rw [HY.out]; exact hlt)] at d
        replace c := (hbel.cell (p := ⟨g, off + k, none⟩) hg).trans c
        replace d := (hbel.cell (p := ⟨g', off' + k, none⟩) hg').trans d
        by_cases hxy : xs.getD k 0 = ys.getD k 0
        · have HN : Hid (∀ j, j < k + 1 → xs.getD j 0 = ys.getD j 0) := by
            intro j hj
            by_cases hjk : j < k
            · exact HA.out j hjk
            · obtain rfl : j = k := by omega
              exact hxy
          rw [← hxy] at d
          generalize xs.getD k 0 = x at *
          clear hxy hcell hcell'
          go_wp2_with fail
          go_quiet (fail)
          go_wp2_with fail
          exact ⟨⟨⟨k + 1, by omega, by go_num, HN.out⟩, below_drewN hbel _⟩, by simp [intOf]; omega⟩
        · have HD := Lib.hid (ne_of_get hxy)
          obtain ⟨x, hx⟩ : ∃ x, xs.getD k 0 = x := ⟨_, rfl⟩
          obtain ⟨y, hy⟩ : ∃ y, ys.getD k 0 = y := ⟨_, rfl⟩
          rw [hx] at hxy c
          rw [hy] at hxy d
          have hxI : ((x : Int) != (y : Int)) = true := by simp; omega
          clear hx hy
          clear hxy hcell hcell'
          go_wp2_with fail
          go_quiet (fail)
          go_wp2_with fail
          go_ret
          exact ⟨by rw [HD.out]; rfl, below_drewN hbel _⟩
      · obtain rfl : k = n := by omega
        have HD := Lib.hid (eq_of_take (xs := xs) (ys := ys) (by rw [HX.out, HY.out]) (fun j hj => HA.out j (by rw [HX.out] at hj; exact hj)))
        clear hlt
        go_wp2
        go_ret
        exact ⟨by rw [HD.out]; rfl, hbel⟩
  · have hd : decide (xs = ys) = false := by
      simp only [decide_eq_false_iff_not]
      rintro rfl
      omega
    rw [hd]
    have hnI : ((n : Int) != (n' : Int)) = true := by simp; omega
    clear hn hn' hd ha hb hc hc' hm hm' hne
    go_enter Try.func51, Try.ntmps51
    go_wp2
    go_ret
    exact ⟨rfl, Below.refl _ _⟩

/-- A schedule that may be. -/
def Valid : List Nat → List Nat → Prop
  | _, [] => True
  | l, i :: s => i < l.length ∧ l.getD i 0 ≠ 0 ∧ Valid (lset l i) s
/-- Its number. -/
def rankF : List Nat → List Nat → Nat
  | _, [] => 0
  | l, i :: s => sum ((leftL l).take i) + rankF (lset l i) s
theorem nthF_valid (t : Nat) : ∀ l n, Sm l → sum l = t → n < cN l → Valid l (nthF t l n) ∧ rankF l (nthF t l n) = n := by
  induction t with
  | zero => intro l n hs ht hn; rw [sm_zero hs ht] at hn; exact ⟨trivial, by show 0 = n; omega⟩
  | succ t ih =>
    intro l n hs ht hn
    obtain ⟨h1, h2, h3, h4, h5⟩ := sm_pick hs (by omega) hn
    obtain ⟨i1, i2⟩ := ih _ _ (sm_lset hs _) (by omega) h3
    unfold nthF
    refine ⟨⟨h1, h2, i1⟩, ?_⟩
    show sum ((leftL l).take (pick (leftL l) n 0).1) + rankF _ _ = n
    rw [i2]
    exact h5.symm
end Go.Proofs.Ytplfhjahdepphaa.Ex
