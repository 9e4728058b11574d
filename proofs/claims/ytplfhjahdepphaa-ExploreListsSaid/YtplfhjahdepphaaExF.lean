/- Contract of explore.Rank. -/
import Derived.Test.YtplfhjahdepphaaExE
namespace Go.Proofs.Ytplfhjahdepphaa.Ex
open Go.ChangeShapes Go.WideShapes Go.ChangeAt Go.RowKit
set_option linter.unusedVariables false
set_option linter.unusedSimpArgs false
set_option maxRecDepth 100000

/-- What the outer loop of Rank keeps. -/
def KRel (w : World) (l s : List Nat) (v6 : Value) (k : Nat) (n i : Value) (wr : World) : Prop :=
  ∃ (N : Nat) (L : List Nat), k ≤ s.length ∧ i = .int .i64 k ∧ n = .int .i64 N ∧ N ≤ 1600000 * k ∧ Sm L ∧ L.length = l.length ∧ Valid L (s.drop k) ∧ N + rankF L (s.drop k) = rankF l s ∧
    wr.ownsRow w.heap.size 3 1 v6 L.length (nats L) ∧ Below w.heap.size w wr
/-- What its inner loop keeps. -/
def KRel2 (L : List Nat) (N p : Nat) (n j : Value) : Prop :=
  ∃ J : Nat, J ≤ p ∧ j = .int .i64 J ∧ n = .int .i64 (N + sum ((leftL L).take J) : Nat)
/-- What Rank answers. -/
def RankP (w : World) (r : Nat) (z : Ending) (w' : World) : Prop := z = .returned (.tuple #[.int .i64 (r : Int), .bool true]) ∧ Below w.heap.size w w'

set_option maxHeartbeats 4000000 in
theorem rank_any (v vs : Value) (l s : List Nat) (hs : Sm l) (hv : Valid l s) (hsl : s.length = sum l) (b bs : Nat) (w : World) (hr : Ow.Row w b 1 v (nats l)) (hrs : Ow.Row w bs 1 vs (nats s)) :
    Calls Try.prog 53 #[v, vs] w (RankP w (rankF l s)) := by
  have HC := Lib.hid (fun W h => count_any v l (by have := hs.1; omega) (fun k hk => by have := hs.2 k hk; omega) W h)
  rw [sm_cntI hs] at HC
  have HR := Lib.hid hr
  have hc1 := (sm_cnt hs).2.1
  have hcI : (0 : Int) ≤ (cN l : Int) := by omega
  have HCL := Lib.hid (fun W h => clone_any v (nats l) (oneCell_nats l) (by rw [nats_length]; have := hs.1; omega) b W h)
  have HT := Lib.hid (fun W h => total_any v l (by have := hs.1; omega) (fun k hk => by have := hs.2 k hk; omega) b W h)
  have HS := Lib.hid hs
  have h12 := sm_sum12 hs
  have HV := Lib.hid hv
  obtain ⟨asx, ns, caps, rfl, hns, hcs, hms, hcells⟩ := hrs
  rw [nats_length, Nat.mul_one] at hns
  have HNS := Lib.hid hns
  rw [hsl] at hns
  rw [hns] at HT h12
  have hcase := hcells
  clear hs hr hv hsl hms hns hc1
  go_enter Try.func53, Try.ntmps53
  go_wp2_with fail
  refine (HC.out _ (Plan.row_weak HR.out (Nat.zero_le _))).mono ?_
  rintro z w1 ⟨rfl, rfl⟩
  go_wp2_with fail
  refine (HT.out _ HR.out).mono ?_
  rintro z w1 ⟨rfl, rfl⟩
  go_wp2_with fail
  refine (HCL.out _ HR.out).mono ?_
  rintro z w2 ⟨v6, rfl, hown6, hb⟩
  rw [nats_length] at hown6
  have hstart : KRel w l s v6 0 (.int .i64 0) (.int .i64 0) w2 :=
    ⟨0, l, by omega, rfl, rfl, by omega, HS.out, rfl, HV.out, by simp, hown6, hb⟩
  have HST := Lib.hid hstart
  clear hstart hown6 hb
  go_wp2_with fail
  go_loopw [7, 26] (fun n i wr => ∃ k, KRel w l s v6 k n i wr) (fun _ i _ => ns - (intOf i).toNat)
  case atStart => exact ⟨0, HST.out⟩
  case round =>
    obtain ⟨k, N, L, hk, rfl, rfl, hN, hL, hLl, hval, hrk, hown6, hb⟩ := hrel
    rw [HNS.out] at hk
    by_cases hlt : k < ns
    · have i1 : (0 : Int) ≤ (k : Int) := by omega
      have i2 : (k : Int) < (ns : Int) := by omega
      rcases hcase with h0 | ⟨g, off, rfl, _, hg, hcell⟩
      · omega
      have c := hcell k (by omega)
      rw [nats_get s k (by rw [HNS.out]; exact hlt)] at c
      replace c := (hb.cell (p := ⟨g, off + k, none⟩) hg).trans c
      have hd : s.drop k = s.getD k 0 :: s.drop (k + 1) := by
        have hjl : k < s.length := by rw [HNS.out]; exact hlt
        rw [show s.getD k 0 = s[k] by simp [List.getD_eq_getElem?_getD, List.getElem?_eq_getElem hjl]]
        exact List.drop_eq_getElem_cons _
      rw [hd] at hval hrk
      generalize s.getD k 0 = p at *
      obtain ⟨hp, hp0, hval2⟩ := hval
      have hrk2 : N + (sum ((leftL L).take p) + rankF (lset L p) (s.drop (k + 1))) = rankF l s := hrk
      have hL0 : 0 < L.length := by omega
      obtain ⟨g6, cap6, rfl, hg6, hg6'⟩ := hown6.form hL0
      have HLF := Lib.hid (fun W h => left_any (.slice (some ⟨g6, 0, none⟩) L.length cap6) L hL 0 W h)
      have hle := leftL_le hL
      have HSM := Lib.hid (fun J => sum_le (leftL L) 369600 hle J)
      have HL := Lib.hid hL
      have HVV := Lib.hid hval2
      have HRK := Lib.hid hrk2
      have HLL' := Lib.hid hLl
      obtain ⟨n, hn⟩ : ∃ n, L.length = n := ⟨_, rfl⟩
      have HLN := Lib.hid hn
      have hn4 : n ≤ 4 := by rw [← hn]; exact hL.1
      have HY : Hid ((nats L)[p]? = some (.int .i64 ((L.getD p 0 : Nat) : Int))) := nats_get L p hp
      have hy3 : L.getD p 0 ≤ 3 := by
        rw [List.getD_eq_getElem?_getD, List.getElem?_eq_getElem hp]
        exact hL.2 _ (List.getElem_mem _)
      have HSET : Hid (∀ y, L.getD p 0 = y → (nats L).set p (.int .i64 ((y : Int) - 1)) = nats (lset L p)) := by
        intro y hy
        unfold lset nats
        rw [List.map_set]
        congr 1
        rw [hy]
        have : ((y - 1 : Nat) : Int) = (y : Int) - 1 := by omega
        rw [this]
      obtain ⟨y, hy⟩ : ∃ y, L.getD p 0 = y := ⟨_, rfl⟩
      have HYY := Lib.hid hy
      rw [hy] at HY hp0 hy3
      rw [hn] at hp hown6 hL0 HLF ⊢
      have hlleft := leftL_length L
      rw [hn] at hlleft
      have HLL := Lib.hid hlleft
      have hN2 : N ≤ 1600000 * 12 := Nat.le_trans hN (Nat.mul_le_mul_left _ (by omega))
      have p0 : (0 : Int) ≤ (p : Int) := by omega
      have p1 : (p : Int) < (n : Int) := by omega
      have y1 : (1 : Int) ≤ (y : Int) := by omega
      have y3 : (y : Int) ≤ 3 := by omega
      have yb : ((y : Int) == 0) = false := by simp; omega
      have xc : wr.cell? ⟨g6, p, none⟩ = some (.int .i64 (y : Int)) := (hown6.cellAt p (by omega)).trans HY.out
      clear hd hrk hrk2 hval2 hL hn hlleft hle hcell hy hLl
      go_wp2_with fail
      refine (HLF.out _ (Plan.row_weak (Plan.own_row hown6) (Nat.zero_le _))).mono ?_
      rintro z w4 ⟨v8, rfl, hrow8, hq⟩
      have hown6b := Ow.own_below hown6 hq
      have hb4 := hb.trans (hq.mono hb.size)
      clear hown6 hb hq HLF xc c
      obtain ⟨a8, n8, c8, rfl, hl8, hc8, hm8, hcell8⟩ := hrow8
      rw [nats_length, HLL.out, Nat.mul_one] at hl8
      obtain rfl : n8 = n := hl8.symm
      rcases hcell8 with h0 | ⟨g8, off8, rfl, _, hg8, hcell8⟩
      · omega
      have HCE := Lib.hid hcell8
      have p2 : (p : Int) ≤ (c8 : Int) := by omega
      clear hcell8 hm8
      go_wp2_with fail
      go_loop [7, 50] (fun n j => KRel2 L N p n j) (fun _ j => p - (intOf j).toNat)
      case atStart => exact ⟨0, Nat.zero_le _, rfl, rfl⟩
      case round =>
        obtain ⟨J, hJ, rfl, rfl⟩ := hrel
        have hsJ := HSM.out J
        have hsJ4 : sum ((leftL L).take J) ≤ 369600 * 4 := Nat.le_trans hsJ (Nat.mul_le_mul_left _ (by omega))
        by_cases hJp : J < p
        · have j1 : (0 : Int) ≤ (J : Int) := by omega
          have j2 : (J : Int) < (p : Int) := by omega
          have c := HCE.out J (by omega)
          rw [nats_get (leftL L) J (by rw [HLL.out]; omega)] at c
          have hs1 := sum_take (leftL L) J (by rw [HLL.out]; omega)
          have hx := HSM.out (J + 1)
          rw [hs1] at hx
          have HS1 := Lib.hid hs1
          have hxb : (leftL L).getD J 0 ≤ 369600 * 5 := by
            have : 369600 * (J + 1) ≤ 369600 * 5 := Nat.mul_le_mul_left _ (by omega)
            omega
          generalize (leftL L).getD J 0 = x at *
          have x0 : (0 : Int) ≤ (x : Int) := by omega
          obtain ⟨M, hM⟩ : ∃ M, N + sum ((leftL L).take J) = M := ⟨_, rfl⟩
          have HM := Lib.hid hM
          rw [hM]
          have hMb : (M : Int) ≤ 100000000 := by omega
          have hxI : (x : Int) ≤ 100000000 := by omega
          clear hs1 hx hM hsJ hsJ4
          go_wp2
          go_round
          case rel => exact ⟨J + 1, by omega, by go_num, by rw [HS1.out, ← Nat.add_assoc, HM.out]; go_num⟩
          case measure => simp [intOf]; omega
        · obtain rfl : J = p := by omega
          obtain ⟨M, hM⟩ : ∃ M, N + sum ((leftL L).take J) = M := ⟨_, rfl⟩
          have HM := Lib.hid hM
          have hMk : M ≤ 1600000 * (k + 1) := by
            rw [Nat.mul_succ]; omega
          rw [hM]
          have xc : w4.cell? ⟨g6, J, none⟩ = some (.int .i64 (y : Int)) := (hown6b.cellAt J (by omega)).trans HY.out
          have xf := hown6b.frozenAt J
          have hst := (hown6b.stored J (.int .i64 ((y : Int) - 1))).1
          rw [HSET.out y HYY.out] at hst
          have hb6 : Below w.heap.size w (w4.setCell ⟨g6, J, none⟩ (.int .i64 ((y : Int) - 1))) := hb4.setCell (by show w.heap.size ≤ g6; exact hg6) _
          have HFIN : Hid (KRel w l s (.slice (some ⟨g6, 0, none⟩) n8 cap6) (k + 1) (.int .i64 (M : Int)) (.int .i64 ((k + 1 : Nat) : Int)) (w4.setCell ⟨g6, J, none⟩ (.int .i64 ((y : Int) - 1)))) :=
            ⟨M, lset L J, by rw [HNS.out]; omega, rfl, rfl, hMk, sm_lset HL.out J, by rw [lset_length]; exact HLL'.out, HVV.out, by rw [← HRK.out, ← HM.out]; omega, by rw [lset_length, HLN.out]; exact hst, hb6⟩
          clear hst hb6 hown6b hb4 hM hMk hsJ hsJ4
          go_wp2_with fail
          exact ⟨⟨k + 1, by first | exact HFIN.out | (have h := HFIN.out; push_cast at h; exact h)⟩, by simp [intOf]; omega⟩
    · obtain rfl : k = ns := by omega
      have HF : Hid (rankF l s = N) := by
        show _ = _
        rw [← hrk, List.drop_eq_nil_of_le (by rw [HNS.out]; exact Nat.le_refl _)]
        rfl
      clear hrk hval hown6 hlt
      go_wp2
      go_ret2
      exact ⟨by rw [HF.out]; rfl, hb⟩
end Go.Proofs.Ytplfhjahdepphaa.Ex
