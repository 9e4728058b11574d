/- Contracts of the document's Count and Nth of schedules. -/
import Derived.Test.YtplfhjahdepphaaExJ
namespace Go.Proofs.Ytplfhjahdepphaa.Ex
open Go.ChangeShapes Go.WideShapes Go.ChangeAt Go.RowKit
set_option linter.unusedVariables false
set_option linter.unusedSimpArgs false
set_option maxRecDepth 100000

set_option maxHeartbeats 2000000 in
theorem rcount_any (v : Value) (l : List Nat) (hs : Sm l) (w : World) (hr : Ow.Row w 0 1 v (nats l)) :
    Calls Try.prog 66 #[v] w fun e w' => e = .returned (.int .i64 (cN l)) ∧ w = w' := by
  have hl : l.length ≤ 8 := by have := hs.1; omega
  have hk : ∀ k ∈ l, k ≤ 12 := fun k hk => by have := hs.2 k hk; omega
  have HSM := Lib.hid hs
  have hcb := (sm_cnt hs).2.2
  have HCN := Lib.hid (sm_cnt hs).1
  clear hs
  obtain ⟨a, n, cap, rfl, hn, hc, hm, ha⟩ := hr
  rw [nats_length, Nat.mul_one] at hn
  subst hn
  obtain ⟨n, hlen⟩ : ∃ n, l.length = n := ⟨_, rfl⟩
  have HN := Lib.hid hlen
  rw [hlen] at hl hc ha ⊢
  have hl8 : (n : Int) ≤ 8 := by omega
  have HK := Lib.hid hk
  clear hm hlen hk
  go_enter Try.func66, Try.ntmps66
  go_wp2
  go_loop [3, 4, 5] (fun n s i => CRel l n s i) (fun _ _ i => n - (intOf i).toNat)
  case atStart => exact ⟨0, 1, 0, by omega, rfl, rfl, rfl, by omega, by omega, rfl⟩
  case round =>
    obtain ⟨k, N, S, hkl, rfl, rfl, rfl, hN, hS, hcn⟩ := hrel
    have hkn : k ≤ n := by rw [HN.out] at hkl; exact hkl
    by_cases hlt : k < n
    · rcases ha with ha | ⟨g, off, rfl, _, hg, hcell⟩
      · omega
      have i1 : (0 : Int) ≤ (k : Int) := by omega
      have i2 : (k : Int) < (n : Int) := by omega
      have c := hcell k (by omega)
      rw [nats_get l k (by rw [HN.out]; exact hlt)] at c
      have hget : l.getD k 0 = l[k]'(by rw [HN.out]; exact hlt) := by simp [List.getD_eq_getElem?_getD, List.getElem?_eq_getElem (show k < l.length by rw [HN.out]; exact hlt)]
      have hx : l.getD k 0 ≤ 12 := by rw [hget]; exact HK.out _ (List.getElem_mem _)
      have hd : l.drop k = l.getD k 0 :: l.drop (k + 1) := by rw [hget]; exact List.drop_eq_getElem_cons _
      rw [hd, cntF_cons] at hcn
      generalize l.getD k 0 = x at *
      have x0 : (0 : Int) ≤ (x : Int) := by omega
      have x1 : (x : Int) ≤ 12 := by omega
      have HC := Lib.hid hcn
      have hk8 : k ≤ 8 := by omega
      clear hcn hd hget hcell
      go_wp2
      go_loop [3, 4, 6] (fun n s i => CRel2 l k x n s i) (fun _ _ i => x + 1 - (intOf i).toNat)
      case atStart => exact ⟨1, N, S, by omega, by omega, rfl, rfl, rfl, hN, by omega, HC.out⟩
      case round =>
        obtain ⟨j, N, S, j1, jx, rfl, rfl, rfl, hN, hS, hcn⟩ := hrel
        by_cases hj : j ≤ x
        · have hjI : (j : Int) ≤ (x : Int) := by omega
          have hj0 : ¬ (j : Int) = 0 := by omega
          have hjp : (0 : Int) < (j : Int) := by omega
          have hmul := cnt_mul N S hN (by omega)
          obtain ⟨T, hT⟩ : ∃ T, N * (S + 1) = T := ⟨_, rfl⟩
          rw [hT] at hmul
          have hTI : (N : Int) * ((S : Int) + 1) = (T : Int) := by rw [← hT]; push_cast; rfl
          have hTw : (T : Int) ≤ 2010000000 := by omega
          obtain ⟨M, hM⟩ : ∃ M, T / j = M := ⟨_, rfl⟩
          have hMI : (T : Int) / (j : Int) = (M : Int) := by rw [← hM]; exact (Int.natCast_ediv T j).symm
          have hM0 : M ≤ T := by rw [← hM]; exact Nat.div_le_self _ _
          have hin : inner (x + 1 - j) j N S = if 10000000 < M then none else inner (x + 1 - (j + 1)) (j + 1) M (S + 1) := by
            rw [show x + 1 - j = (x + 1 - (j + 1)) + 1 by omega]
            conv => lhs; unfold inner
            rw [hT, hM]
          rw [hin] at hcn
          clear hin hT hM
          by_cases hbig : 10000000 < M
          · exfalso
            rw [if_pos hbig] at hcn
            rw [HCN.out] at hcn
            cases hcn
          · rw [if_neg hbig] at hcn
            have HC2 := Lib.hid hcn
            have hb1 : (M : Int) ≤ 10000000 := by omega
            clear hcn
            go_wp2
            go_round
            case rel => exact ⟨j + 1, M, S + 1, by omega, by omega, by go_num, by go_num, by go_num, by omega, by omega, HC2.out⟩
            case measure => simp [intOf]; omega
        · obtain rfl : j = x + 1 := by omega
          have hjI : ¬ ((x : Int) + 1 ≤ (x : Int)) := by omega
          rw [Nat.sub_self] at hcn
          have HC2 : Hid (cntF (l.drop (k + 1)) N S = cntF l 1 0) := hcn
          clear hcn
          go_wp2
          go_round
          case rel => exact ⟨k + 1, N, S, by rw [HN.out]; omega, by go_num, rfl, rfl, hN, by omega, HC2.out⟩
          case measure => simp [intOf]; omega
    · obtain rfl : k = n := by omega
      rw [List.drop_eq_nil_of_le (by rw [HN.out]; exact Nat.le_refl _)] at hcn
      have HC : Hid (cN l = N) := by
        show _ = _
        rw [HCN.out] at hcn
        have h2 : some N = some (cN l) := hcn
        simp only [Option.some.injEq] at h2
        exact h2.symm
      have hNb : (N : Int) ≤ 10000000 := by omega
      clear hcn hlt
      go_wp2
      go_ret
      exact ⟨by rw [HC.out]; rfl, rfl⟩
end Go.Proofs.Ytplfhjahdepphaa.Ex
