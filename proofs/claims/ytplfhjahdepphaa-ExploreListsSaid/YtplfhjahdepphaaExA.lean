/- Contract of explore.Count: how many schedules there are, as plain numbers tell it. -/
import Derived.Test.YtplfhjahdepphaaPlanR
import Derived.LoopTactic
namespace Go.Proofs.Ytplfhjahdepphaa.Ex
open Go.ChangeShapes Go.WideShapes Go.ChangeAt Go.RowKit
set_option linter.unusedVariables false
set_option linter.unusedSimpArgs false
set_option maxRecDepth 100000

def nats (l : List Nat) : List Value := l.map (fun (n : Nat) => Value.int .i64 ((n : Nat) : Int))
theorem nats_length (l : List Nat) : (nats l).length = l.length := List.length_map ..
theorem nats_get (l : List Nat) (j : Nat) (h : j < l.length) : (nats l)[j]? = some (.int .i64 ((l.getD j 0 : Nat) : Int)) := by
  unfold nats
  simp [List.getElem?_eq_getElem h, List.getD_eq_getElem?_getD]
theorem nats_append (a b : List Nat) : nats (a ++ b) = nats a ++ nats b := List.map_append ..
theorem oneCell_nats (l : List Nat) : ∀ u ∈ nats l, u.oneCell' = true := by
  intro u hu
  unfold nats at hu
  rw [List.mem_map] at hu
  obtain ⟨x, _, rfl⟩ := hu
  rfl

/-- So many places more: binomial numbers multiplied on. -/
def inner : Nat → Nat → Nat → Nat → Option (Nat × Nat)
  | 0, _, n, s => some (n, s)
  | r + 1, i, n, s => if 10000000 < n * (s + 1) / i then none else inner r (i + 1) (n * (s + 1) / i) (s + 1)
def cntF : List Nat → Nat → Nat → Option Nat
  | [], n, _ => some n
  | k :: l, n, s => match inner k 1 n s with
    | none => none
    | some (n', s') => cntF l n' s'
def onw (l : List Nat) (o : Option (Nat × Nat)) : Option Nat := match o with | none => none | some (n', s') => cntF l n' s'
theorem cntF_cons (k : Nat) (l : List Nat) (n s : Nat) : cntF (k :: l) n s = onw l (inner k 1 n s) := rfl
/-- How many there are; -1: too many. -/
def cntI (o : Option Nat) : Int := match o with | none => -1 | some n => n
def cnt (l : List Nat) : Int := cntI (cntF l 1 0)

/-- What the outer loop of Count keeps. -/
def CRel (l : List Nat) (n s i : Value) : Prop :=
  ∃ k N S : Nat, k ≤ l.length ∧ i = .int .i64 k ∧ n = .int .i64 N ∧ s = .int .i64 S ∧ N ≤ 10000000 ∧ S ≤ 12 * k ∧ cntF (l.drop k) N S = cntF l 1 0
/-- What the inner loop of Count keeps. -/
def CRel2 (l : List Nat) (k x : Nat) (n s i : Value) : Prop :=
  ∃ j N S : Nat, 1 ≤ j ∧ j ≤ x + 1 ∧ i = .int .i64 j ∧ n = .int .i64 N ∧ s = .int .i64 S ∧ N ≤ 10000000 ∧ S < 12 * k + j ∧ onw (l.drop (k + 1)) (inner (x + 1 - j) j N S) = cntF l 1 0

theorem cnt_mul (N S : Nat) (hN : N ≤ 10000000) (hS : S ≤ 200) : N * (S + 1) ≤ 2010000000 := by
  have := Nat.mul_le_mul hN (show S + 1 ≤ 201 by omega)
  omega

set_option maxHeartbeats 2000000 in
theorem count_any (v : Value) (l : List Nat) (hl : l.length ≤ 8) (hk : ∀ k ∈ l, k ≤ 12) (w : World) (hr : Ow.Row w 0 1 v (nats l)) :
    Calls Try.prog 48 #[v] w fun e w' => e = .returned (.int .i64 (cnt l)) ∧ w = w' := by
  obtain ⟨a, n, cap, rfl, hn, hc, hm, ha⟩ := hr
  rw [nats_length, Nat.mul_one] at hn
  subst hn
  obtain ⟨n, hlen⟩ : ∃ n, l.length = n := ⟨_, rfl⟩
  have HN := Lib.hid hlen
  rw [hlen] at hl hc ha ⊢
  have hl8 : (n : Int) ≤ 8 := by omega
  have HK := Lib.hid hk
  clear hm hlen hk
  go_enter Try.func48, Try.ntmps48
  go_wp2
  go_loop [3, 4, 13] (fun n s i => CRel l n s i) (fun _ _ i => n - (intOf i).toNat)
  case atStart => exact ⟨0, 1, 0, by omega, rfl, rfl, rfl, by omega, by omega, rfl⟩
  case round =>
    obtain ⟨k, N, S, hkl, rfl, rfl, rfl, hN, hS, hcn⟩ := hrel
    have hkn : k ≤ n := by rw [HN.out] at hkl; exact hkl
    by_cases hlt : k < n
    · rcases ha with ha | ⟨g, off, rfl, _, hg, hcell⟩
      · omega
      have i1 : (0 : Int) ≤ (k : Int) := by omega
      have i2 : (k : Int) < (n : Int) := by omega
      have c := hcell k (by omega)
      rw [nats_get l k (by rw [HN.out]; exact hlt)] at c
      have hget : l.getD k 0 = l[k]'(by rw [HN.out]; exact hlt) := by simp [List.getD_eq_getElem?_getD, List.getElem?_eq_getElem (show k < l.length by rw [HN.out]; exact hlt)]
      have hx : l.getD k 0 ≤ 12 := by rw [hget]; exact HK.out _ (List.getElem_mem _)
      have hd : l.drop k = l.getD k 0 :: l.drop (k + 1) := by rw [hget]; exact List.drop_eq_getElem_cons _
      rw [hd, cntF_cons] at hcn
      generalize l.getD k 0 = x at *
      have x0 : (0 : Int) ≤ (x : Int) := by omega
      have x1 : (x : Int) ≤ 12 := by omega
      have HC := Lib.hid hcn
      have hk8 : k ≤ 8 := by omega
      clear hcn hd hget hcell
      go_wp2
      go_loop [3, 4, 7] (fun n s i => CRel2 l k x n s i) (fun _ _ i => x + 1 - (intOf i).toNat)
      case atStart => exact ⟨1, N, S, by omega, by omega, rfl, rfl, rfl, hN, by omega, HC.out⟩
      case round =>
        obtain ⟨j, N, S, j1, jx, rfl, rfl, rfl, hN, hS, hcn⟩ := hrel
        by_cases hj : j ≤ x
        · have hjI : (j : Int) ≤ (x : Int) := by omega
          have hj0 : ¬ (j : Int) = 0 := by omega
          have hjp : (0 : Int) < (j : Int) := by omega
          have hmul := cnt_mul N S hN (by omega)
          obtain ⟨T, hT⟩ : ∃ T, N * (S + 1) = T := ⟨_, rfl⟩
          rw [hT] at hmul
          have hTI : (N : Int) * ((S : Int) + 1) = (T : Int) := by rw [← hT]; push_cast; rfl
          have hTw : (T : Int) ≤ 2010000000 := by omega
          obtain ⟨M, hM⟩ : ∃ M, T / j = M := ⟨_, rfl⟩
          have hMI : (T : Int) / (j : Int) = (M : Int) := by rw [← hM]; exact (Int.natCast_ediv T j).symm
          have hM0 : M ≤ T := by rw [← hM]; exact Nat.div_le_self _ _
          have hin : inner (x + 1 - j) j N S = if 10000000 < M then none else inner (x + 1 - (j + 1)) (j + 1) M (S + 1) := by
            rw [show x + 1 - j = (x + 1 - (j + 1)) + 1 by omega]
            conv => lhs; unfold inner
            rw [hT, hM]
          rw [hin] at hcn
          clear hin hT hM
          by_cases hbig : 10000000 < M
          · rw [if_pos hbig] at hcn
            have HC2 : Hid (cnt l = -1) := by
              show _ = _
              unfold cnt; rw [← hcn]; rfl
            have hb1 : (10000000 : Int) < (M : Int) := by omega
            clear hcn
            go_wp2
            go_ret
            exact ⟨by rw [HC2.out]; rfl, rfl⟩
          · rw [if_neg hbig] at hcn
            have HC2 := Lib.hid hcn
            have hb1 : (M : Int) ≤ 10000000 := by omega
            clear hcn
            go_wp2
            go_round
            case rel => exact ⟨j + 1, M, S + 1, by omega, by omega, by go_num, by go_num, by go_num, by omega, by omega, HC2.out⟩
            case measure => simp [intOf]; omega
        · obtain rfl : j = x + 1 := by omega
          have hjI : ¬ ((x : Int) + 1 ≤ (x : Int)) := by omega
          rw [Nat.sub_self] at hcn
          have HC2 : Hid (cntF (l.drop (k + 1)) N S = cntF l 1 0) := hcn
          clear hcn
          go_wp2
          go_round
          case rel => exact ⟨k + 1, N, S, by rw [HN.out]; omega, by go_num, rfl, rfl, hN, by omega, HC2.out⟩
          case measure => simp [intOf]; omega
    · obtain rfl : k = n := by omega
      rw [List.drop_eq_nil_of_le (by rw [HN.out]; exact Nat.le_refl _)] at hcn
      have HC : Hid (cnt l = (N : Int)) := by
        show _ = _
        unfold cnt; rw [← hcn]; rfl
      clear hcn hlt
      go_wp2
      go_ret
      exact ⟨by rw [HC.out]; rfl, rfl⟩
end Go.Proofs.Ytplfhjahdepphaa.Ex
