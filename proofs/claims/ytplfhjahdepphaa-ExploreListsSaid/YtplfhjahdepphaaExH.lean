/- Contract of explore.next. -/
import Derived.Test.YtplfhjahdepphaaExG
namespace Go.Proofs.Ytplfhjahdepphaa.Ex
open Go.ChangeShapes Go.WideShapes Go.ChangeAt Go.RowKit
set_option linter.unusedVariables false
set_option linter.unusedSimpArgs false
set_option maxRecDepth 100000

/-- The last place of a greater number. -/
def lastGt (x : Nat) : List Nat → Option Nat
  | [] => none
  | y :: T => match lastGt x T with
    | some k => some (k + 1)
    | none => if x < y then some 0 else none
def stepF (x : Nat) (T : List Nat) : Option (List Nat) := match lastGt x T with
  | none => none
  | some k => some (T.getD k 0 :: (T.set k x).reverse)
/-- The next one, if there is one. -/
def nextF : List Nat → Option (List Nat)
  | [] => none
  | x :: T => match nextF T with
    | some T' => some (x :: T')
    | none => stepF x T
/-- No number is followed by a greater one. -/
def NonInc (T : List Nat) : Prop := ∀ j, j + 1 < T.length → T.getD (j + 1) 0 ≤ T.getD j 0

theorem lastGt_none (x : Nat) (T : List Nat) (h : ∀ j, j < T.length → T.getD j 0 ≤ x) : lastGt x T = none := by
  induction T with
  | nil => rfl
  | cons y T ih =>
    have h0 := h 0 (by simp)
    have ih' := ih fun j hj => by
      have := h (j + 1) (by simpa using hj)
      simpa using this
    unfold lastGt
    rw [ih']
    simp only [List.getD_cons_zero] at h0
    simp only
    rw [if_neg (by omega)]
theorem lastGt_some (x : Nat) (T : List Nat) : ∀ k, k < T.length → x < T.getD k 0 → (∀ j, k < j → j < T.length → T.getD j 0 ≤ x) → lastGt x T = some k := by
  induction T with
  | nil => intro k hk; simp at hk
  | cons y T ih =>
    intro k hk hx hj
    unfold lastGt
    cases k with
    | zero =>
      have hn := lastGt_none x T fun j hjl => by
        have := hj (j + 1) (by omega) (by simpa using hjl)
        simpa using this
      rw [hn]
      simp only [List.getD_cons_zero] at hx
      simp only
      rw [if_pos hx]
    | succ k =>
      have := ih k (by simpa using hk) (by simpa using hx) (fun j h1 h2 => by
        have := hj (j + 1) (by omega) (by simpa using h2)
        simpa using this)
      rw [this]
theorem NonInc.tail {x : Nat} {T : List Nat} (h : NonInc (x :: T)) : NonInc T := fun j hj => by
  have := h (j + 1) (by simpa using hj)
  simpa using this
theorem NonInc.head {T : List Nat} (h : NonInc T) : ∀ j, j < T.length → T.getD j 0 ≤ T.getD 0 0 := by
  intro j
  induction j with
  | zero => intro _; exact Nat.le_refl _
  | succ j ih => intro hj; exact Nat.le_trans (h j hj) (ih (by omega))
theorem nextF_none (T : List Nat) (h : NonInc T) : nextF T = none := by
  induction T with
  | nil => rfl
  | cons x T ih =>
    unfold nextF
    rw [ih h.tail]
    unfold stepF
    rw [lastGt_none x T fun j hj => by
      have := h.head (j + 1) (by simpa using hj)
      simpa using this]
theorem nextF_step (P : List Nat) (x : Nat) (T : List Nat) (h : NonInc T) (k : Nat) (hk : k < T.length) (hx : x < T.getD k 0) (hj : ∀ j, k < j → j < T.length → T.getD j 0 ≤ x) :
    nextF (P ++ x :: T) = some (P ++ T.getD k 0 :: (T.set k x).reverse) := by
  induction P with
  | nil =>
    show nextF (x :: T) = _
    unfold nextF
    rw [nextF_none T h]
    unfold stepF
    rw [lastGt_some x T k hk hx hj]; rfl
  | cons y P ih =>
    show nextF (y :: (P ++ x :: T)) = _
    unfold nextF
    rw [ih]; rfl

theorem swap_split (xs : List Nat) (i K z x : Nat) (h1 : i < K) (h2 : K < xs.length) :
    ((xs.set i z).set K x).take (i + 1) ++ (((xs.set i z).set K x).drop (i + 1)).reverse = xs.take i ++ z :: ((xs.drop (i + 1)).set (K - (i + 1)) x).reverse := by
  have hx : xs = xs.take i ++ xs.getD i 0 :: xs.drop (i + 1) := by
    have hi : i < xs.length := by omega
    rw [show xs.getD i 0 = xs[i] by simp [List.getD_eq_getElem?_getD, List.getElem?_eq_getElem hi], ← List.drop_eq_getElem_cons hi, List.take_append_drop]
  have hl : (xs.take i).length = i := by rw [List.length_take]; omega
  have hs : (xs.set i z).set K x = xs.take i ++ z :: (xs.drop (i + 1)).set (K - (i + 1)) x := by
    conv => lhs; rw [hx]
    rw [List.set_append_right _ _ (by omega), hl, Nat.sub_self, List.set_cons_zero, List.set_append_right _ _ (by omega), hl]
    rw [show K - i = (K - (i + 1)) + 1 by omega, List.set_cons_succ]
  rw [hs]
  have ht : (xs.take i ++ z :: (xs.drop (i + 1)).set (K - (i + 1)) x).take (i + 1) = xs.take i ++ [z] := by
    rw [List.take_append, hl, List.take_of_length_le (by omega), show i + 1 - i = 1 by omega]; rfl
  have hd : (xs.take i ++ z :: (xs.drop (i + 1)).set (K - (i + 1)) x).drop (i + 1) = (xs.drop (i + 1)).set (K - (i + 1)) x := by
    rw [List.drop_append, hl, List.drop_eq_nil_of_le (by omega), show i + 1 - i = 1 by omega]; rfl
  rw [ht, hd]
  simp
theorem next_of (xs : List Nat) (i K x z : Nat) (hx : xs.getD i 0 = x) (hz : xs.getD K 0 = z) (hni : NonInc (xs.drop (i + 1))) (h1 : i < K) (h2 : K < xs.length) (hxz : x < z) (hj : ∀ j, K < j → j < xs.length → xs.getD j 0 ≤ x) :
    nextF xs = some (((xs.set i z).set K x).take (i + 1) ++ (((xs.set i z).set K x).drop (i + 1)).reverse) := by
  rw [swap_split xs i K z x h1 h2]
  have g2 : ∀ t, (xs.drop (i + 1)).getD t 0 = xs.getD (i + 1 + t) 0 := fun t => by simp [List.getD_eq_getElem?_getD]
  have h := nextF_step (xs.take i) x (xs.drop (i + 1)) hni (K - (i + 1)) (by rw [List.length_drop]; omega) (by rw [g2, show i + 1 + (K - (i + 1)) = K by omega, hz]; exact hxz) (fun j h3 h4 => by
    rw [List.length_drop] at h4
    rw [g2]
    exact hj _ (by omega) (by omega))
  rw [g2, show i + 1 + (K - (i + 1)) = K by omega, hz] at h
  have hxs : xs = xs.take i ++ x :: xs.drop (i + 1) := by
    have hi : i < xs.length := by omega
    rw [← hx, show xs.getD i 0 = xs[i] by simp [List.getD_eq_getElem?_getD, List.getElem?_eq_getElem hi], ← List.drop_eq_getElem_cons hi, List.take_append_drop]
  rw [← hxs] at h
  exact h

/-- What next answers. -/
def NextP (w : World) (base g n cap : Nat) (xs : List Nat) (z : Ending) (w' : World) : Prop :=
  w.grownBy w' (some g) ∧ ((nextF xs = none ∧ z = .returned (.bool false) ∧ w'.ownsRow base 3 1 (.slice (some ⟨g, 0, none⟩) n cap) n (nats xs)) ∨
    ∃ ys, nextF xs = some ys ∧ z = .returned (.bool true) ∧ w'.ownsRow base 3 1 (.slice (some ⟨g, 0, none⟩) n cap) n (nats ys))

theorem own_heap {w : World} {base : Nat} {e : TypeId} {size : Nat} {v : Value} {n : Nat} {xs : List Value} (h : w.ownsRow base e size v n xs) (n2 : Nat) : (w.drewN n2).ownsRow base e size v n xs := h

set_option maxHeartbeats 4000000 in
theorem next_any (base g n cap : Nat) (xs : List Nat) (hn : n ≤ 1000000) (hn0 : 0 < n) (w : World) (hown : w.ownsRow base 3 1 (.slice (some ⟨g, 0, none⟩) n cap) n (nats xs)) :
    Calls Try.prog 64 #[.slice (some ⟨g, 0, none⟩) n n] w (NextP w base g n cap xs) := by
  have hxl : xs.length = n := by have := hown.1; rw [nats_length] at this; omega
  have HXL := Lib.hid hxl
  have HO := Lib.hid hown
  clear hown hxl
  go_enter Try.func64, Try.ntmps64
  go_wp2
  go_loopw [3] (fun i wr => ∃ J q : Nat, J + 1 ≤ n ∧ i = .int .i64 ((J : Int) - 1) ∧ NonInc (xs.drop J) ∧ wr = w.drewN q) (fun i _ => (intOf i + 1).toNat)
  case atStart =>
    refine ⟨n - 1, 0, by omega, by (congr 1; omega), ?_, rfl⟩
    intro j hj
    rw [List.length_drop, HXL.out] at hj
    omega
  case round =>
    obtain ⟨J, q, hJ, rfl, hni, rfl⟩ := hrel
    have HNI := Lib.hid hni
    clear hni
    cases J with
    | zero =>
      have HF : Hid (nextF xs = none) := nextF_none xs HNI.out
      have hd : decide ((0 : Int) ≤ -1) = false := by decide
      have e0 : ((0 : Nat) : Int) - 1 = -1 := by omega
      rw [e0]
      clear hJ
      go_wp2_with fail
      go_quiet (fail)
      go_wp2_with fail
      go_ret
      exact ⟨grown_drewN (grown_refl _ _) _, .inl ⟨HF.out, rfl, HO.out⟩⟩
    | succ i =>
      have e1 : ((i + 1 : Nat) : Int) - 1 = (i : Int) := by omega
      rw [e1]
      have c1 := (HO.out.cellAt i (by omega)).trans (nats_get xs i (by rw [HXL.out]; omega))
      have c2 := (HO.out.cellAt (i + 1) (by omega)).trans (nats_get xs (i + 1) (by rw [HXL.out]; omega))
      obtain ⟨x, hx⟩ : ∃ x, xs.getD i 0 = x := ⟨_, rfl⟩
      obtain ⟨y, hy⟩ : ∃ y, xs.getD (i + 1) 0 = y := ⟨_, rfl⟩
      rw [hx] at c1
      rw [hy] at c2
      have HX := Lib.hid hx
      have HY := Lib.hid hy
      have i1 : (0 : Int) ≤ (i : Int) := by omega
      have i2 : (i : Int) < (n : Int) := by omega
      have i3 : (i : Int) + 1 < (n : Int) := by omega
      have i4 : (0 : Int) ≤ (i : Int) + 1 := by omega
      have i5 : ((i : Int) + 1).toNat = i + 1 := by omega
      clear hx hy
      by_cases hge : y ≤ x
      · have hxy : (y : Int) ≤ (x : Int) := by omega
        have HN2 : Hid (NonInc (xs.drop i)) := by
          intro j hj
          rw [List.length_drop] at hj
          have g1 : ∀ t, (xs.drop i).getD t 0 = xs.getD (i + t) 0 := fun t => by simp [List.getD_eq_getElem?_getD]
          rw [g1, g1]
          cases j with
          | zero => show xs.getD (i + 1) 0 ≤ xs.getD (i + 0) 0; rw [HY.out, Nat.add_zero, HX.out]; exact hge
          | succ j =>
            have := HNI.out j (by rw [List.length_drop]; omega)
            have g2 : ∀ t, (xs.drop (i + 1)).getD t 0 = xs.getD (i + 1 + t) 0 := fun t => by simp [List.getD_eq_getElem?_getD]
            rw [g2, g2] at this
            rw [show i + (j + 1 + 1) = i + 1 + (j + 1) by omega, show i + (j + 1) = i + 1 + j by omega]
            exact this
        go_wp2_with fail
        go_quiet (fail)
        go_wp2_with fail
        exact ⟨⟨i, q + nq, by omega, rfl, HN2.out, rfl⟩, by simp [intOf]⟩
      · have hxy : (x : Int) < (y : Int) := by omega
        go_wp2_with fail
        go_quiet (fail)
        go_wp2_with fail
        go_loopw [4] (fun k wr => ∃ K q : Nat, i + 1 ≤ K ∧ K < n ∧ k = .int .i64 (K : Int) ∧ (∀ j, K < j → j < n → xs.getD j 0 ≤ x) ∧ wr = w.drewN q) (fun k _ => (intOf k).toNat)
        case atStart => exact ⟨n - 1, q + nq, by omega, by omega, by (congr 1; omega), by omega, rfl⟩
        case round =>
          obtain ⟨K, q2, hK1, hK2, rfl, hall, rfl⟩ := hrel
          have c3 := (HO.out.cellAt K (by omega)).trans (nats_get xs K (by rw [HXL.out]; omega))
          obtain ⟨z, hz⟩ : ∃ z, xs.getD K 0 = z := ⟨_, rfl⟩
          rw [hz] at c3
          have HZ := Lib.hid hz
          have HALL := Lib.hid hall
          have k1 : (0 : Int) ≤ (K : Int) := by omega
          have k2 : (K : Int) < (n : Int) := by omega
          clear hz hall c2
          by_cases hzx : z ≤ x
          · have hzI : (z : Int) ≤ (x : Int) := by omega
            have hne : K ≠ i + 1 := by
              rintro rfl
              have h1 := HY.out
              have h2 := HZ.out
              omega
            have HA2 : Hid (∀ j, K - 1 < j → j < n → xs.getD j 0 ≤ x) := by
              intro j h1 h2
              by_cases hj : j = K
              · rw [hj, HZ.out]; exact hzx
              · exact HALL.out j (by omega) h2
            go_wp2_with fail
            go_quiet (fail)
            go_wp2_with fail
            exact ⟨⟨K - 1, q2 + nq, by omega, by omega, by (congr 1; omega), HA2.out, rfl⟩, by simp [intOf]; omega⟩
          · have hzI : ¬ ((z : Int) ≤ (x : Int)) := by omega
            have hzd : decide ((z : Int) ≤ (x : Int)) = false := by simp; omega
            have HNX := Lib.hid (next_of xs i K x z HX.out HZ.out HNI.out (by omega) (by rw [HXL.out]; omega) (by omega) (fun j h1 h2 => HALL.out j h1 (by rw [← HXL.out]; exact h2)))
            have f1 := HO.out.frozenAt i
            have f2 := HO.out.frozenAt K
            have hne1 : ¬ i = K := by omega
            go_wp2_with fail
            go_quiet (fail)
            go_wp2_with fail
            go_region
            go_wp2_with fail
            obtain ⟨hst1, hg1⟩ := (own_heap HO.out (q2 + nq + 1)).stored i (.int .i64 (z : Int))
            obtain ⟨hst2, hg2⟩ := hst1.stored K (.int .i64 (x : Int))
            rw [nats_set, nats_set] at hst2
            refine (reverse_any base g n cap (i + 1) (n - (i + 1)) _ hn (by omega) (Nat.le_refl _) _ hst2).mono ?_
            rintro e w9 ⟨rfl, hown9, hg9⟩
            have HFIN : Hid (w.grownBy w9 (some g) ∧ w9.ownsRow base 3 1 (.slice (some ⟨g, 0, none⟩) n cap) n (nats (((xs.set i z).set K x).take (i + 1) ++ (((xs.set i z).set K x).drop (i + 1)).reverse))) :=
              ⟨grown_trans (grown_trans (grown_trans (grown_drewN (grown_refl _ _) _) hg1) hg2) hg9, hown9⟩
            clear hst1 hst2 hg1 hg2 hown9 hg9 c1 c3 f1 f2
            go_wp2_with fail
            go_ret
            exact ⟨HFIN.out.1, .inr ⟨_, HNX.out, rfl, HFIN.out.2⟩⟩
end Go.Proofs.Ytplfhjahdepphaa.Ex
