/- The next schedule, in plain lists; contract of Reverse of integers. -/
import Derived.Test.YtplfhjahdepphaaExF
import Derived.BigRegion
namespace Go.Proofs.Ytplfhjahdepphaa.Ex
open Go.ChangeShapes Go.WideShapes Go.ChangeAt Go.RowKit
set_option linter.unusedVariables false
set_option linter.unusedSimpArgs false
set_option maxRecDepth 100000

/-- So many pairs exchanged, from the two ends inward. -/
def revN (xs : List Nat) (p m : Nat) : Nat → List Nat
  | 0 => xs
  | k + 1 => ((revN xs p m k).set (p + k) ((revN xs p m k).getD (p + (m - 1 - k)) 0)).set (p + (m - 1 - k)) ((revN xs p m k).getD (p + k) 0)
theorem revN_length (xs : List Nat) (p m : Nat) : ∀ k, (revN xs p m k).length = xs.length := by
  intro k
  induction k with
  | zero => rfl
  | succ k ih => unfold revN; rw [List.length_set, List.length_set, ih]
theorem getD_set (l : List Nat) (i j x : Nat) (hi : i < l.length) : (l.set i x).getD j 0 = if j = i then x else l.getD j 0 := by
  rw [List.getD_eq_getElem?_getD, List.getD_eq_getElem?_getD, List.getElem?_set]
  by_cases h : i = j
  · subst h; simp [hi]
  · rw [if_neg h, if_neg (fun e => h e.symm)]
theorem revN_get (xs : List Nat) (p m : Nat) (hm : p + m = xs.length) : ∀ k, 2 * k ≤ m → ∀ i, (revN xs p m k).getD i 0 = if (p ≤ i ∧ i < p + k) ∨ (p + m - k ≤ i ∧ i < p + m) then xs.getD (2 * p + m - 1 - i) 0 else xs.getD i 0 := by
  intro k
  induction k with
  | zero => intro _ i; rw [if_neg (by omega)]; rfl
  | succ k ih =>
    intro hk i
    have ih' := ih (by omega)
    unfold revN
    rw [getD_set _ _ _ _ (by rw [List.length_set, revN_length]; omega), getD_set _ _ _ _ (by rw [revN_length]; omega), ih', ih', ih']
    by_cases h1 : i = p + (m - 1 - k)
    · rw [if_pos h1, if_neg (by omega), if_pos (by omega)]
      congr 1; omega
    · rw [if_neg h1]
      by_cases h2 : i = p + k
      · rw [if_pos h2, if_neg (by omega), if_pos (by omega)]
        congr 1; omega
      · rw [if_neg h2]
        by_cases h3 : (p ≤ i ∧ i < p + k) ∨ (p + m - k ≤ i ∧ i < p + m)
        · rw [if_pos h3, if_pos (by omega)]
        · rw [if_neg h3, if_neg (by omega)]
theorem ext_getD {a b : List Nat} (hl : a.length = b.length) (h : ∀ i, i < a.length → a.getD i 0 = b.getD i 0) : a = b := by
  have := eq_of_take hl h
  simpa using this
theorem revN_all (xs : List Nat) (p m k : Nat) (hm : p + m = xs.length) (h1 : 2 * k ≤ m) (h2 : m ≤ 2 * k + 1) : revN xs p m k = xs.take p ++ (xs.drop p).reverse := by
  refine ext_getD (by rw [revN_length, List.length_append, List.length_take, List.length_reverse, List.length_drop]; omega) fun i hi => ?_
  rw [revN_length] at hi
  rw [revN_get xs p m hm k h1 i]
  have hdl : (xs.drop p).length = m := by rw [List.length_drop]; omega
  rw [List.getD_eq_getElem?_getD (l := xs.take p ++ _)]
  by_cases hp : i < p
  · rw [if_neg (by omega), List.getElem?_append_left (by rw [List.length_take]; omega), List.getElem?_take, if_pos hp, List.getD_eq_getElem?_getD]
  · rw [List.getElem?_append_right (by rw [List.length_take]; omega), List.length_take, Nat.min_eq_left (by omega), List.getElem?_reverse (by rw [hdl]; omega), hdl, List.getElem?_drop]
    by_cases hc : (p ≤ i ∧ i < p + k) ∨ (p + m - k ≤ i ∧ i < p + m)
    · rw [if_pos hc, List.getD_eq_getElem?_getD]
      congr 2; omega
    · rw [if_neg hc, List.getD_eq_getElem?_getD]
      congr 2; omega

theorem nats_set (l : List Nat) (i x : Nat) : (nats l).set i (.int .i64 (x : Int)) = nats (l.set i x) := by unfold nats; rw [List.map_set]
theorem grown_trans {w1 w2 w3 : World} {g : Option Nat} (a : w1.grownBy w2 g) (b : w2.grownBy w3 g) : w1.grownBy w3 g :=
  ⟨b.os.trans a.os, b.tape.trans a.tape, b.output.trans a.output, Nat.le_trans a.size b.size, fun k hk hne => (b.block k (Nat.lt_of_lt_of_le hk a.size) hne).trans (a.block k hk hne)⟩
theorem grown_drew {w1 w2 : World} {g : Option Nat} (a : w1.grownBy w2 g) : w1.grownBy w2.drew g := ⟨a.os, a.tape, a.output, a.size, a.block⟩
theorem grown_drewN {w1 w2 : World} {g : Option Nat} (a : w1.grownBy w2 g) (n : Nat) : w1.grownBy (w2.drewN n) g := ⟨a.os, a.tape, a.output, a.size, a.block⟩
theorem grown_refl (w : World) (g : Option Nat) : w.grownBy w g := ⟨rfl, rfl, rfl, Nat.le_refl _, fun _ _ _ => rfl⟩

/-- What the loop of Reverse keeps. -/
def VRel (w : World) (base g n cap p m : Nat) (xs : List Nat) (i j : Value) (wr : World) : Prop :=
  ∃ k : Nat, 2 * k ≤ m ∧ i = .int .i64 k ∧ j = .int .i64 ((m : Int) - 1 - (k : Int)) ∧ wr.ownsRow base 3 1 (.slice (some ⟨g, 0, none⟩) n cap) n (nats (revN xs p m k)) ∧ w.grownBy wr (some g)

set_option maxHeartbeats 4000000 in
theorem reverse_any (base g n cap p c : Nat) (xs : List Nat) (hn : n ≤ 1000000) (hp : p < n) (hc : n - p ≤ c) (w : World) (hown : w.ownsRow base 3 1 (.slice (some ⟨g, 0, none⟩) n cap) n (nats xs)) :
    Calls Try.prog 69 #[.slice (some ⟨g, p, none⟩) (n - p) c] w fun e w' => e = .returned (.tuple #[]) ∧ w'.ownsRow base 3 1 (.slice (some ⟨g, 0, none⟩) n cap) n (nats (xs.take p ++ (xs.drop p).reverse)) ∧ w.grownBy w' (some g) := by
  obtain ⟨m, hm⟩ : ∃ m, n - p = m := ⟨_, rfl⟩
  have hxl : xs.length = n := by have := hown.1; rw [nats_length] at this; omega
  have HALL := Lib.hid (fun k (h1 : 2 * k ≤ m) (h2 : m ≤ 2 * k + 1) => revN_all xs p m k (by omega) h1 h2)
  have HXL := Lib.hid hxl
  have HO := Lib.hid hown
  rw [hm] at hc ⊢
  have hm1 : 1 ≤ m := by omega
  have hmb : m ≤ 1000000 := by omega
  have hpm : p + m = n := by omega
  clear hown hxl hm
  go_enter Try.func69, Try.ntmps69
  go_wp2
  go_loopw [2, 3] (fun i j wr => VRel w base g n cap p m xs i j wr) (fun i _ _ => m - (intOf i).toNat)
  case atStart => exact ⟨0, by omega, rfl, by simp, HO.out, grown_refl _ _⟩
  case round =>
    obtain ⟨k, hk, rfl, rfl, hown, hg⟩ := hrel
    by_cases hlt : 2 * k + 1 < m
    · obtain ⟨J, hJ⟩ : ∃ J, m - 1 - k = J := ⟨_, rfl⟩
      have hJI : (m : Int) - 1 - (k : Int) = (J : Int) := by omega
      have hr : revN xs p m (k + 1) = ((revN xs p m k).set (p + k) ((revN xs p m k).getD (p + J) 0)).set (p + J) ((revN xs p m k).getD (p + k) 0) := by rw [← hJ]; rfl
      have HRV := Lib.hid hr
      have hzl : (revN xs p m k).length = n := by rw [revN_length, HXL.out]
      rw [hJI]
      generalize revN xs p m k = zs at *
      have c1 := (hown.cellAt (p + k) (by omega)).trans (nats_get zs (p + k) (by omega))
      have c2 := (hown.cellAt (p + J) (by omega)).trans (nats_get zs (p + J) (by omega))
      have f1 := hown.frozenAt (p + k)
      have f2 := hown.frozenAt (p + J)
      obtain ⟨x, hx⟩ : ∃ x, zs.getD (p + k) 0 = x := ⟨_, rfl⟩
      obtain ⟨y, hy⟩ : ∃ y, zs.getD (p + J) 0 = y := ⟨_, rfl⟩
      rw [hx] at c1
      rw [hy] at c2
      rw [hx, hy] at hr
      have HR2 := Lib.hid hr
      have hkJ : k < J := by omega
      have i1 : (0 : Int) ≤ (k : Int) := by omega
      have i2 : (k : Int) < (m : Int) := by omega
      have i3 : (0 : Int) ≤ (J : Int) := by omega
      have i4 : (J : Int) < (m : Int) := by omega
      have i5 : (k : Int) < (J : Int) := by omega
      obtain ⟨hst1, hg1⟩ := hown.stored (p + k) (.int .i64 (y : Int))
      obtain ⟨hst2, hg2⟩ := hst1.stored (p + J) (.int .i64 (x : Int))
      rw [nats_set, nats_set, ← hr] at hst2
      have HST : Hid ((((wr.setCell ⟨g, p + k, none⟩ (.int .i64 (y : Int))).setCell ⟨g, p + J, none⟩ (.int .i64 (x : Int))).drew.ownsRow base 3 1 (.slice (some ⟨g, 0, none⟩) n cap) n (nats (revN xs p m (k + 1)))) ∧ w.grownBy ((wr.setCell ⟨g, p + k, none⟩ (.int .i64 (y : Int))).setCell ⟨g, p + J, none⟩ (.int .i64 (x : Int))).drew (some g)) :=
        ⟨hst2.drew, grown_drew (grown_trans (grown_trans hg hg1) hg2)⟩
      have hne1 : ¬ p + k = p + J := by omega
      have hne2 : ¬ k = J := by omega
      clear hx hy hr hst1 hst2 hg1 hg2 hown hg hzl hJ
      go_wp2_with fail
      go_region
      go_wp2_with fail
      exact ⟨⟨k + 1, by omega, by go_num, by (congr 1; push_cast; omega), HST.out.1, HST.out.2⟩, by simp [intOf]; omega⟩
    · have h2 : m ≤ 2 * k + 1 := by omega
      rw [HALL.out k hk h2] at hown
      have hnot : ¬ ((k : Int) < (m : Int) - 1 - (k : Int)) := by omega
      have HF := Lib.hid hown
      clear hown hlt
      go_wp2
      go_end0
      exact ⟨rfl, HF.out, hg⟩
end Go.Proofs.Ytplfhjahdepphaa.Ex
