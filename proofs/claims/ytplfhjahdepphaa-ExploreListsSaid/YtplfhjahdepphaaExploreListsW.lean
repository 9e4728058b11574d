/- ExploreLists: the walk: whatever lengths and number come in, the law answers true and writes nothing that was there. -/
import Derived.Test.YtplfhjahdepphaaExL
import Derived.Test.YtplfhjahdepphaaSl
namespace Go.Proofs.Ytplfhjahdepphaa.Ex
open Go.ChangeShapes Go.WideShapes Go.ChangeAt Go.RowKit
set_option linter.unusedVariables false
set_option linter.unusedSimpArgs false
set_option maxRecDepth 100000

/-- What the first loop of ExploreLists keeps. -/
def E1Rel (w : World) (n : Nat) (s i : Value) (wr : World) : Prop :=
  ∃ (k : Nat) (L : List Nat), k ≤ n ∧ k ≤ 4 ∧ i = .int .i64 k ∧ L.length = k ∧ (∀ x ∈ L, x ≤ 3) ∧ wr.ownsRow w.heap.size 3 1 s k (nats L) ∧ Below w.heap.size w wr


set_option maxHeartbeats 4000000 in
theorem lists_law (a : Option Addr) (len cap : Nat) (zs : List Int) (most : Int) (w : World) (hr : Sl.IsRow .i64 w a len cap zs) (hmw : (Lit.int .i64 most).wf = true) :
    Calls Try.prog 17 #[.slice a len cap, .int .i64 most] w fun e w' => e = .returned (.bool true) ∧ Below w.heap.size w w' := by
  clear hmw
  obtain ⟨hl, hlc, hcm, hcell⟩ := hr.plain
  generalize zs.take len = zl at hl hcell
  clear hr
  obtain ⟨pm, hpm⟩ : ∃ p, bits .and .i64 most 511 = p := ⟨_, rfl⟩
  have pm0 : 0 ≤ pm := by rw [← hpm, Bt.i64_and511]; omega
  obtain ⟨M, hM⟩ : ∃ M : Nat, pm % 300 = (M : Int) := ⟨(pm % 300).toNat, by omega⟩
  have hM3 : M < 300 := by omega
  go_enter Try.func17, Try.ntmps17
  go_wp2
  go_loopw [5, 6] (fun s i wr => E1Rel w len s i wr) (fun _ i _ => len - (intOf i).toNat)
  case atStart => exact ⟨0, [], by omega, by omega, rfl, rfl, by simp, World.ownsRow_nil _ _ _ _, Below.refl _ _⟩
  case round =>
    obtain ⟨k, L, hkn, hk4, rfl, hLl, hL3, hown, hb⟩ := hrel
    obtain ⟨a2, cap2, rfl, hn2, hm2, -⟩ := Ow.own_form hown
    by_cases hlt : k < len ∧ k < 4
    · obtain ⟨h1, h2⟩ := hlt
      rcases hcell with h0 | ⟨g, off, rfl, hg, hcell⟩
      · omega
      have c := (hcell k h1).1
      replace c := (hb.cell (p := ⟨g, off + k, none⟩) hg).trans c
      generalize zl.getD k 0 = z at c
      obtain ⟨p, hp⟩ : ∃ p, bits .and .i64 z 255 = p := ⟨_, rfl⟩
      have p0 : 0 ≤ p := by rw [← hp, Bt.i64_and255]; omega
      obtain ⟨x, hx⟩ : ∃ x : Nat, p % 4 = (x : Int) := ⟨(p % 4).toNat, by omega⟩
      have hx3 : x ≤ 3 := by omega
      have i1 : (0 : Int) ≤ (k : Int) := by omega
      have i2 : (k : Int) < (len : Int) := by omega
      have i3 : (k : Int) < 4 := by omega
      have hsz := hb.size
      have HL3 := Lib.hid hL3
      have HLL := Lib.hid hLl
      have HN : Hid (nats (L ++ [x]) = nats L ++ nats [x]) := nats_append _ _
      clear hcell hL3 hLl
      go_wp2_with (at_builtin; refine append_IR _ rfl (.tmp 26) (.tmp 33) rfl w.heap.size (.slice a2 k cap2) k _ rfl (hown.alloc _) _ _ (nats [x]) rfl (row_lit wr #[.int .i64 (x : Int)] _ 1 rfl (by omega)) (oneCell_nats _) ?hn ?hb ?_)
      case hn => rw [nats_length]; simp; omega
      case hb => first | omega | (simp; omega)
      intro v' w2 hown2 hg2
      have hb2 : Below w.heap.size w w2 := Ow.grown_below (hown.alloc _) (hb.alloc hsz _) (by simp; omega) hg2
      rw [← HN.out, show k + (nats [x]).length = k + 1 from rfl] at hown2
      have HFIN : Hid (E1Rel w len v' (.int .i64 ((k + 1 : Nat) : Int)) w2) :=
        ⟨k + 1, L ++ [x], by omega, by omega, rfl, by rw [List.length_append, HLL.out]; rfl, fun y hy => by
          rcases List.mem_append.1 hy with hy | hy
          · exact HL3.out y hy
          · simp at hy; omega, hown2, hb2⟩
      clear hown hown2 hg2 hb2 hb
      go_wp2_with fail
      exact ⟨by first | exact HFIN.out | (have h := HFIN.out; push_cast at h; exact h), by simp [intOf]; omega⟩
    · have hL : Sm L := ⟨by omega, hL3⟩
      have hc := sm_cnt hL
      have HCT := Lib.hid (fun W h => count_any (.slice a2 k cap2) L (by omega) (fun x hx => by have := hL3 x hx; omega) W h)
      rw [sm_cntI hL] at HCT
      obtain ⟨t, ht⟩ : ∃ t, sum L = t := ⟨_, rfl⟩
      have HRN : Hid (∀ m : Nat, m < cN L → ∀ b W, Ow.Row W b 1 (.slice a2 k cap2) (nats L) → Calls Try.prog 54 #[.slice a2 k cap2, .int .i64 (m : Int)] W (RNthP W (nthF (sum L) L m))) := fun m hm b W h => rnth_yes _ L hL b m hm W h
      have HRK : Hid (∀ m : Nat, m < cN L → ∀ vs b bs W, Ow.Row W b 1 (.slice a2 k cap2) (nats L) → Ow.Row W bs 1 vs (nats (nthF (sum L) L m)) → Calls Try.prog 53 #[.slice a2 k cap2, vs] W (RankP W m)) := fun m hm vs b bs W h1 h2 => by
        obtain ⟨hv, hk⟩ := nthF_valid (sum L) L m hL rfl hm
        have := rank_any _ vs L _ hL hv (nthF_length _ _ _) b bs W h1 h2
        rw [hk] at this
        exact this
      have HSC : Hid (∀ m : Nat, 1 ≤ m → m ≤ 300 → ∀ b W, Ow.Row W b 1 (.slice a2 k cap2) (nats L) → Calls Try.prog 52 #[.slice a2 k cap2, .int .i64 (m : Int)] W (SchP W ((List.range (min m (cN L))).map fun i => nthF (sum L) L i))) := fun m h1 h2 b W h => by
        have := sched_any _ L hL b m h1 h2 W h
        rw [run_nth L hL (sum L) rfl (min m (cN L)) 0 (by omega) (by omega)] at this
        simp only [Nat.zero_add] at this
        exact this
      have HS0 : Hid (∀ b W, Ow.Row W b 1 (.slice a2 k cap2) (nats L) → Calls Try.prog 52 #[.slice a2 k cap2, .int .i64 0] W fun e w' => e = .returned (.slice none 0 0) ∧ W = w') := fun b W h => sched_no _ L hL b 0 (by omega) (by omega) W h
      have HSN : Hid (∀ b W, Ow.Row W b 1 (.slice a2 k cap2) (nats L) → Calls Try.prog 52 #[.slice a2 k cap2, .int .i64 (-1)] W fun e w' => e = .returned (.slice none 0 0) ∧ W = w') := fun b W h => sched_no _ L hL b (-1) (by omega) (by omega) W h
      have HNO : Hid (∀ b W, Ow.Row W b 1 (.slice a2 k cap2) (nats L) → Calls Try.prog 50 #[.slice a2 k cap2, .int .i64 (cN L : Int)] W fun e w' => e = .returned (.tuple #[.slice none 0 0, .bool false]) ∧ W = w') := fun b W h => nth_no _ L hL b (cN L : Int) (.inr (by omega)) W h
      have hrow := Plan.row_weak (Plan.own_row hown) (Nat.zero_le _)
      rw [ht] at HRN HRK HSC
      obtain ⟨C, hC⟩ : ∃ C, cN L = C := ⟨_, rfl⟩
      rw [hC] at hc HCT HRN HRK HSC HNO
      obtain ⟨-, hc1, hc2⟩ := hc
      have hC1 : (1 : Int) ≤ (C : Int) := by omega
      have hC2 : (C : Int) ≤ 369600 := by omega
      have hstop : ¬ ((k : Int) < (len : Int)) ∨ ((k : Int) < (len : Int) ∧ ¬ ((k : Int) < 4)) := by omega
      clear hL hL3 hLl hown hcell hlt ht hC
      rcases hstop with h1 | ⟨h1, h2⟩
      all_goals
        by_cases hM0 : M = 0
        · subst hM0
          have hM' : pm % 300 = 0 := hM
          clear hM
          go_wp2_with fail
          refine (HCT.out _ hrow).mono ?_
          rintro z w1 ⟨rfl, rfl⟩
          go_wp2_with fail
          refine (HS0.out _ _ hrow).mono ?_
          rintro z w1 ⟨rfl, rfl⟩
          go_wp2_with fail
          go_loop [9] (fun i => i = .int .i64 0) (fun _ => 0)
          case atStart => rfl
          case round =>
            subst hrel
            have hrowT := hrow
            clear hrow
            go_wp2_with fail
            refine (HNO.out _ _ hrowT).mono ?_
            rintro z wT ⟨rfl, rfl⟩
            go_wp2_with fail
            refine (HSN.out _ _ hrowT).mono ?_
            rintro z wT ⟨rfl, rfl⟩
            clear hrowT
            go_wp2_with (go_at_call 49; refine (awake_any _).mono ?_; rintro e w9 ⟨rfl, hq9⟩; replace hb := hb.trans (hq9.mono hb.size))
            go_ret
            exact ⟨rfl, hb⟩
        · have hM1 : 1 ≤ M := by omega
          rcases (show (∃ N, N = C ∧ C < M ∧ min M C = N) ∨ (∃ N, N = M ∧ ¬ C < M ∧ min M C = N) by
            by_cases h : C < M
            · exact .inl ⟨C, rfl, h, by omega⟩
            · exact .inr ⟨M, rfl, h, by omega⟩) with ⟨N, rfl, hcm', hmin⟩ | ⟨N, rfl, hcm', hmin⟩
          all_goals
            have hN3 : (N : Int) ≤ 300 := by omega
            have HRN2 : Hid (∀ j : Nat, j < N → ∀ b W, Ow.Row W b 1 (.slice a2 k cap2) (nats L) → Calls Try.prog 54 #[.slice a2 k cap2, .int .i64 (j : Int)] W (RNthP W (nthF t L j))) := fun j hj => HRN.out j (by omega)
            have HRK2 : Hid (∀ j : Nat, j < N → ∀ vs b bs W, Ow.Row W b 1 (.slice a2 k cap2) (nats L) → Ow.Row W bs 1 vs (nats (nthF t L j)) → Calls Try.prog 53 #[.slice a2 k cap2, vs] W (RankP W j)) := fun j hj => HRK.out j (by omega)
            have HSM := HSC.out _ hM1 (by omega)
            rw [hmin] at HSM
            have HSM' := Lib.hid HSM
            clear HSM HSC HS0 HRN HRK
            go_wp2_with fail
            refine (HCT.out _ hrow).mono ?_
            rintro z w1 ⟨rfl, rfl⟩
            go_wp2_with fail
            refine (HSM'.out _ _ hrow).mono ?_
            rintro z w5 ⟨gO, vs, rfl, hgO, hgO', hvl, hvc, hvr, hq⟩
            have hXl : ((List.range N).map fun i => nthF t L i).length = N := by simp
            have hXg : ∀ i, i < N → ((List.range N).map fun i => nthF t L i).getD i [] = nthF t L i := fun i hi => by
              rw [List.getD_eq_getElem?_getD, List.getElem?_map, List.getElem?_range hi]; rfl
            rw [hXl] at hvl hvc hvr ⊢
            have HVR : Hid (∀ i, i < N → Ow.Row w5 wr.heap.size 1 (vs.getD i (.slice none 0 0)) (nats (nthF t L i))) := fun i hi => by
              have := hvr i hi
              rw [hXg i hi] at this
              exact this
            have HVC : Hid (∀ i, i < N → w5.cell? ⟨gO, i, none⟩ = some (vs.getD i (.slice none 0 0))) := fun i hi => by
              rw [hvc i hi, List.getElem?_eq_getElem (by omega), List.getD_eq_getElem?_getD, List.getElem?_eq_getElem (by omega)]; rfl
            have hrow5 := hrow.below hq
            have hb5 := hb.trans (hq.mono hb.size)
            clear hvl hvc hvr hXl hXg hq hrow hb HSM' HCT
            go_wp2_with fail
            go_loopw [9] (fun i w6 => ∃ j : Nat, j ≤ N ∧ i = .int .i64 (j : Int) ∧ Below w5.heap.size w5 w6) (fun i _ => N - (intOf i).toNat)
            case atStart => exact ⟨0, Nat.zero_le _, rfl, Below.refl _ _⟩
            case round =>
              obtain ⟨j, hjN, rfl, hb6⟩ := hrel
              have hrow6 := hrow5.below hb6
              by_cases hj : j < N
              · have j0 : (0 : Int) ≤ (j : Int) := by omega
                have jN : (j : Int) < (N : Int) := by omega
                have c := (hb6.cell (p := ⟨gO, j, none⟩) hgO').trans (HVC.out j hj)
                have hvj := (HVR.out j hj).below hb6
                have hgO6 := Nat.lt_of_lt_of_le hgO' hb6.size
                generalize vs.getD j (.slice none 0 0) = vj at *
                go_wp2_with fail
                refine (HRK2.out j hj vj _ _ _ hrow6 hvj).mono ?_
                rintro z w7 ⟨rfl, hq⟩
                have hrow7 := hrow6.below hq
                have hvj7 := hvj.below hq
                have c7 := (hq.cell (p := ⟨gO, j, none⟩) hgO6).trans c
                have hgO7 := Nat.lt_of_lt_of_le hgO6 hq.size
                have hb7 := hb6.trans (hq.mono hb6.size)
                clear hrow6 hvj c hgO6 hb6 hq
                go_wp2_with fail
                refine (HRN2.out j hj _ _ hrow7).mono ?_
                rintro z w8 ⟨vx, rfl, hvx, hq⟩
                have hvj8 := hvj7.below hq
                have c8 := (hq.cell (p := ⟨gO, j, none⟩) hgO7).trans c7
                have hb8 := hb7.trans (hq.mono hb7.size)
                clear hrow7 hvj7 c7 hgO7 hb7 hq
                go_wp2_with fail
                refine (same_eq _ _ (nthF t L j) _ _ _ hvj8 hvx).mono ?_
                rintro z w9 ⟨rfl, hq⟩
                have hb9 := hb8.trans (hq.mono hb8.size)
                clear hvj8 hvx c8 hb8 hq
                go_wp2_with fail
                exact ⟨⟨j + 1, by omega, by go_num, hb9⟩, by simp [intOf]; omega⟩
              · obtain rfl : N = j := by omega
                have hrowT := hrow6
                have hb := hb5.trans (hb6.mono hb5.size)
                clear hrow6 hj hb6 hrow5 hb5
                go_wp2_with fail
                refine (HNO.out _ _ hrowT).mono ?_
                rintro z wT ⟨rfl, rfl⟩
                go_wp2_with fail
                refine (HSN.out _ _ hrowT).mono ?_
                rintro z wT ⟨rfl, rfl⟩
                clear hrowT
                go_wp2_with (go_at_call 49; refine (awake_any _).mono ?_; rintro e w9 ⟨rfl, hq9⟩; replace hb := hb.trans (hq9.mono hb.size))
                go_ret
                exact ⟨rfl, hb⟩
end Go.Proofs.Ytplfhjahdepphaa.Ex
