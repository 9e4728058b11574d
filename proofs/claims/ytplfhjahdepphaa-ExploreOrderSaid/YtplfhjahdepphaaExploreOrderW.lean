/- ExploreOrder: the walk: whatever lengths and numbers come in, the law answers true and writes nothing that was there. -/
import Derived.Test.YtplfhjahdepphaaExOrderP
import Derived.Test.YtplfhjahdepphaaSl
namespace Go.Proofs.Ytplfhjahdepphaa.Ex
open Go.ChangeShapes Go.WideShapes Go.ChangeAt Go.RowKit
set_option linter.unusedVariables false
set_option linter.unusedSimpArgs false
set_option maxRecDepth 100000

/-- What the first loop of ExploreOrder keeps. -/
def O1Rel (w : World) (n : Nat) (s i : Value) (wr : World) : Prop :=
  ∃ (k : Nat) (L : List Nat), k ≤ n ∧ k ≤ 4 ∧ i = .int .i64 k ∧ L.length = k ∧ (∀ x ∈ L, x ≤ 3) ∧ wr.ownsRow w.heap.size 3 1 s k (nats L) ∧ Below w.heap.size w wr

theorem nthP_row {w : World} {xs : List Nat} {z : Ending} {w' : World} {t : Nat} (h : NthP w xs z w') (ht : xs.length = t) :
    ∃ a, z = .returned (.tuple #[.slice a t t, .bool true]) ∧ Ow.Row w' w.heap.size 1 (.slice a t t) (nats xs) ∧ Below w.heap.size w w' := by
  obtain ⟨a, n, cap, rfl, hown, hb⟩ := h
  have hn : n = t := by have := hown.1; rw [nats_length, ht] at this; omega
  subst hn
  exact ⟨a, rfl, own_clip hown, hb⟩

theorem rowcells {w : World} {b n c : Nat} {a : Option Addr} {xs : List Nat} (h : Ow.Row w b 1 (.slice a n c) (nats xs)) (hn : 0 < n) (hl : xs.length = n) : ∃ g off, a = some ⟨g, off, none⟩ ∧ ∀ j, j < n → w.cell? ⟨g, off + j, none⟩ = some (.int .i64 ((xs.getD j 0 : Nat) : Int)) := by
  obtain ⟨a', n', c', he, _, hnc, hcm, hcell⟩ := h
  simp only [Value.slice.injEq] at he
  obtain ⟨rfl, rfl, rfl⟩ := he
  rcases hcell with h1 | ⟨g, off, h1, _, _, h4⟩
  · omega
  · exact ⟨g, off, h1, fun j hj => (h4 j (by omega)).trans (nats_get xs j (by omega))⟩

set_option maxHeartbeats 4000000 in
theorem order_law (a : Option Addr) (len cap : Nat) (zs : List Int) (na nb : Int) (w : World) (hr : Sl.IsRow .i64 w a len cap zs) (hna : (Lit.int .i64 na).wf = true) (hnb : (Lit.int .i64 nb).wf = true) :
    Calls Try.prog 16 #[.slice a len cap, .int .i64 na, .int .i64 nb] w fun e w' => e = .returned (.bool true) ∧ Below w.heap.size w w' := by
  clear hna hnb
  obtain ⟨hl, hlc, hcm, hcell⟩ := hr.plain
  generalize zs.take len = zl at hl hcell
  clear hr
  obtain ⟨pa, hpa⟩ : ∃ p, bits .and .i64 na 16777215 = p := ⟨_, rfl⟩
  have pa0 : 0 ≤ pa := by rw [← hpa, Bt.i64_and16777215]; omega
  have pa1 : pa < 16777216 := by rw [← hpa, Bt.i64_and16777215]; omega
  obtain ⟨pb, hpb⟩ : ∃ p, bits .and .i64 nb 16777215 = p := ⟨_, rfl⟩
  have pb0 : 0 ≤ pb := by rw [← hpb, Bt.i64_and16777215]; omega
  have pb1 : pb < 16777216 := by rw [← hpb, Bt.i64_and16777215]; omega
  obtain ⟨PA, rfl⟩ := Int.eq_ofNat_of_zero_le pa0
  obtain ⟨PB, rfl⟩ := Int.eq_ofNat_of_zero_le pb0
  clear pa1 pb1
  go_enter Try.func16, Try.ntmps16
  go_wp2
  go_loopw [7, 8] (fun s i wr => O1Rel w len s i wr) (fun _ i _ => len - (intOf i).toNat)
  case atStart => exact ⟨0, [], by omega, by omega, rfl, rfl, by simp, World.ownsRow_nil _ _ _ _, Below.refl _ _⟩
  case round =>
    obtain ⟨k, L, hkn, hk4, rfl, hLl, hL3, hown, hb⟩ := hrel
    obtain ⟨a2, cap2, rfl, hn2, hm2, -⟩ := Ow.own_form hown
    by_cases hlt : k < len ∧ k < 4
    · obtain ⟨h1, h2⟩ := hlt
      rcases hcell with h0 | ⟨g, off, rfl, hg, hcell⟩
      · omega
      have c := (hcell k h1).1
      replace c := (hb.cell (p := ⟨g, off + k, none⟩) hg).trans c
      generalize zl.getD k 0 = z at c
      obtain ⟨p, hp⟩ : ∃ p, bits .and .i64 z 3 = p := ⟨_, rfl⟩
      have p0 : 0 ≤ p := by rw [← hp, Bt.i64_and3]; omega
      have p1 : p < 4 := by rw [← hp, Bt.i64_and3]; omega
      obtain ⟨x, rfl⟩ := Int.eq_ofNat_of_zero_le p0
      have hx3 : x ≤ 3 := by omega
      have i1 : (0 : Int) ≤ (k : Int) := by omega
      have i2 : (k : Int) < (len : Int) := by omega
      have i3 : (k : Int) < 4 := by omega
      have hsz := hb.size
      have HL3 := Lib.hid hL3
      have HLL := Lib.hid hLl
      have HN : Hid (nats (L ++ [x]) = nats L ++ nats [x]) := nats_append _ _
      clear hcell hL3 hLl
      go_wp2_with (at_builtin; refine append_IR _ rfl (.tmp 31) (.tmp 37) rfl w.heap.size (.slice a2 k cap2) k _ rfl (hown.alloc _) _ _ (nats [x]) rfl (row_lit wr #[.int .i64 (x : Int)] _ 1 rfl (by omega)) (oneCell_nats _) ?hn ?hb ?_)
      case hn => rw [nats_length]; simp; omega
      case hb => first | omega | (simp; omega)
      intro v' w2 hown2 hg2
      have hb2 : Below w.heap.size w w2 := Ow.grown_below (hown.alloc _) (hb.alloc hsz _) (by simp; omega) hg2
      rw [← HN.out, show k + (nats [x]).length = k + 1 from rfl] at hown2
      have HFIN : Hid (O1Rel w len v' (.int .i64 ((k + 1 : Nat) : Int)) w2) :=
        ⟨k + 1, L ++ [x], by omega, by omega, rfl, by rw [List.length_append, HLL.out]; rfl, fun y hy => by
          rcases List.mem_append.1 hy with hy | hy
          · exact HL3.out y hy
          · simp at hy; omega, hown2, hb2⟩
      clear hown hown2 hg2 hb2 hb
      go_wp2_with fail
      exact ⟨by first | exact HFIN.out | (have h := HFIN.out; push_cast at h; exact h), by simp [intOf]; omega⟩
    · have hL : Sm L := ⟨by omega, hL3⟩
      have hc := sm_cnt hL
      have HCT := Lib.hid (fun W h => count_any (.slice a2 k cap2) L (by omega) (fun x hx => by have := hL3 x hx; omega) W h)
      rw [sm_cntI hL] at HCT
      obtain ⟨t, ht⟩ : ∃ t, sum L = t := ⟨_, rfl⟩
      have HEND := Lib.hid (fun i (hi : i < sum L) => sm_ends hL i hi)
      have HNT : Hid (∀ m, m < cN L → ∀ W, Ow.Row W 0 1 (.slice a2 k cap2) (nats L) → Calls Try.prog 50 #[.slice a2 k cap2, .int .i64 (m : Int)] W (NthP W (nthF (sum L) L m))) := fun m hm W h => nth_yes _ L hL 0 m hm W h
      have hrow := Plan.row_weak (Plan.own_row hown) (Nat.zero_le _)
      have HSM := Lib.hid hL
      have HTT := Lib.hid ht
      have h12 := sm_sum12 hL
      rw [ht] at HEND HNT h12
      obtain ⟨C, hC⟩ : ∃ C, cN L = C := ⟨_, rfl⟩
      have HC := Lib.hid hC
      rw [hC] at hc HCT HNT HEND
      obtain ⟨-, hc1, hc2⟩ := hc
      have hC1 : (1 : Int) ≤ (C : Int) := by omega
      have hC2 : (C : Int) ≤ 369600 := by omega
      have hC0 : ¬ (C : Int) = 0 := by omega
      obtain ⟨A, hA⟩ : ∃ A : Nat, (PA : Int) % (C : Int) = (A : Int) := ⟨PA % C, (Int.natCast_emod PA C).symm⟩
      obtain ⟨B, hB⟩ : ∃ B : Nat, (PB : Int) % (C : Int) = (B : Int) := ⟨PB % C, (Int.natCast_emod PB C).symm⟩
      have hAC : A < C := by
        have := Int.emod_lt_of_pos (PA : Int) (show (0 : Int) < (C : Int) by omega)
        omega
      have hBC : B < C := by
        have := Int.emod_lt_of_pos (PB : Int) (show (0 : Int) < (C : Int) by omega)
        omega
      have hLX := nth_lex t L A B hL ht (by omega) (by omega)
      have hIJ := nth_inj t L A B hL ht (by omega) (by omega)
      have HLX := Lib.hid hLX
      have HIJ := Lib.hid hIJ
      obtain ⟨D, hD⟩ : ∃ D, C - 1 = D := ⟨_, rfl⟩
      have hC3 : (C : Int) - 1 = (D : Int) := by omega
      have hDC : D < C := by omega
      rw [hD] at HEND
      have hstop : ¬ ((k : Int) < (len : Int)) ∨ ((k : Int) < (len : Int) ∧ ¬ ((k : Int) < 4)) := by omega
      clear hL hL3 hLl hown hcell hlt ht hC hLX hIJ hD
      rcases hstop with h1 | ⟨h1, h2⟩
      all_goals
        go_wp2_with fail
        refine (HCT.out _ hrow).mono ?_
        rintro z w1 ⟨rfl, rfl⟩
        go_wp2_with fail
        go_quiet (fail)
        have hbq : Below wr.heap.size wr (wr.drewN nq) := below_drewN (Below.refl _ _) nq
        have hrow0 := hrow.below hbq
        have hb0 := hb.trans (hbq.mono hb.size)
        clear hbq hb hrow
        generalize wr.drewN nq = w1 at *
        go_wp2_with fail
        refine (HNT.out A hAC _ hrow0).mono ?_
        rintro z w2 h
        obtain ⟨ax, rfl, hrx, hq⟩ := nthP_row h (nthF_length _ _ _)
        have hrow2 := hrow0.below hq
        have hb2 := hb0.trans (hq.mono hb0.size)
        clear h hq hrow0 hb0
        go_wp2_with fail
        refine (HNT.out B hBC _ hrow2).mono ?_
        rintro z w3 h
        obtain ⟨ay, rfl, hry, hq⟩ := nthP_row h (nthF_length _ _ _)
        have hrow3 := hrow2.below hq
        have hrx3 := hrx.below hq
        have hb3 := hb2.trans (hq.mono hb2.size)
        clear h hq hrow2 hb2 hrx
        have HN0 : Hid (∀ W, Ow.Row W 0 1 (.slice a2 k cap2) (nats L) → Calls Try.prog 50 #[.slice a2 k cap2, .int .i64 0] W (NthP W (nthF t L 0))) := fun W h => HNT.out 0 (by omega) W h
        go_wp2_with fail
        refine (HN0.out _ hrow3).mono ?_
        rintro z w4 h
        obtain ⟨af, rfl, hrf, hq⟩ := nthP_row h (nthF_length _ _ _)
        have hrow4 := hrow3.below hq
        have hrx4 := hrx3.below hq
        have hry4 := hry.below hq
        have hb4 := hb3.trans (hq.mono hb3.size)
        clear h hq hrow3 hb3 hrx3 hry
        go_wp2_with fail
        refine (HNT.out D hDC _ hrow4).mono ?_
        rintro z w5 h
        obtain ⟨al, rfl, hrl, hq⟩ := nthP_row h (nthF_length _ _ _)
        have hrx := hrx4.below hq
        have hry := hry4.below hq
        have hrf5 := hrf.below hq
        have hb5 := hb4.trans (hq.mono hb4.size)
        clear h hq hrow4 hb4 hrx4 hry4 hrf hA hB
        have hLF := nthF_length t L 0
        have hLL := nthF_length t L D
        have hLXX := nthF_length t L A
        have hLY := nthF_length t L B
        have HENDD := HEND
        generalize hF0 : nthF t L 0 = F at *
        generalize hFD : nthF t L D = Z at *
        have HXN := Lib.hid hLXX
        have HYN := Lib.hid hLY
        have HFN := Lib.hid hLF
        have HZN := Lib.hid hLL
        obtain ⟨X, hX⟩ : ∃ X, nthF t L A = X := ⟨_, rfl⟩
        obtain ⟨Y, hY⟩ : ∃ Y, nthF t L B = Y := ⟨_, rfl⟩
        rw [hX] at hrx HLX HIJ HXN
        rw [hY] at hry HLX HIJ HYN
        clear HEND HN0 HNT hF0 hFD hLF hLL hLXX hLY HCT hX hY
        go_wp2_with fail
        go_loopw [18] (fun i wr => ∃ i' q : Nat, i' ≤ t ∧ i = .int .i64 (i' : Int) ∧ wr = w5.drewN q) (fun i _ => t - (intOf i).toNat)
        case atStart => exact ⟨0, 0, by omega, rfl, rfl⟩
        case round =>
          obtain ⟨i, q, hit, rfl, rfl⟩ := hrel
          by_cases hlt : i < t
          · obtain ⟨gf, fo, rfl, hcf⟩ := rowcells hrf5 (by omega) HFN.out
            obtain ⟨gl, lo, rfl, hcl⟩ := rowcells hrl (by omega) HZN.out
            obtain ⟨hE1, hE2⟩ := HENDD.out i hlt
            obtain ⟨J, hJ⟩ : ∃ J, t - 1 - i = J := ⟨_, rfl⟩
            rw [hJ] at hE2
            have hJt : J < t := by omega
            have hJI : (t : Int) - 1 - (i : Int) = (J : Int) := by omega
            have c1 := hcf i hlt
            have c3 := hcl i hlt
            have c5 := hcl J hJt
            rw [← hE2] at c5
            have i0 : (0 : Int) ≤ (i : Int) := by omega
            have it : (i : Int) < (t : Int) := by omega
            have j0 : (0 : Int) ≤ (J : Int) := by omega
            have jt : (J : Int) < (t : Int) := by omega
            by_cases hi0 : i = 0
            · subst hi0
              have hJ0 : (t : Int) - 1 = (J : Int) := by omega
              have t0 : (0 : Int) < (t : Int) := by omega
              rw [Nat.add_zero] at c1 c3
              generalize F.getD 0 0 = x at *
              clear hcf hcl hE1 hE2 hJ hJI
              go_wp2_with fail
              go_quiet (fail)
              go_wp2_with fail
              exact ⟨⟨1, q + nq, by omega, rfl, rfl⟩, by simp [intOf]; omega⟩
            · obtain ⟨hE3, hE4⟩ : F.getD (i - 1) 0 ≤ F.getD i 0 ∧ Z.getD i 0 ≤ Z.getD (i - 1) 0 := by
                rcases hE1 with h | h
                · exact absurd h hi0
                · exact h
              obtain ⟨m, rfl⟩ : ∃ m, i = m + 1 := ⟨i - 1, by omega⟩
              rw [Nat.add_sub_cancel] at hE3 hE4
              have c2 := hcf m (by omega)
              have c4 := hcl m (by omega)
              have e1 : ((m + 1 : Nat) : Int) = (m : Int) + 1 := by omega
              rw [e1] at hJI i0 it ⊢
              have m0 : (0 : Int) ≤ (m : Int) := by omega
              have mt : (m : Int) < (t : Int) := by omega
              have hgt : decide ((0 : Int) < (m : Int) + 1) = true := decide_eq_true (by omega)
              have hwm : IntKind.i64.wrap (m : Int) = (m : Int) := by rw [IntKind.wrap_i64]; omega
              have hwJ : IntKind.i64.wrap (J : Int) = (J : Int) := by rw [IntKind.wrap_i64]; omega
              have hwt : IntKind.i64.wrap ((t : Int) - 1) = (t : Int) - 1 := by rw [IntKind.wrap_i64]; omega
              have htn : ((m : Int) + 1).toNat = m + 1 := by omega
              generalize F.getD (m + 1) 0 = x at *
              generalize F.getD m 0 = y at *
              generalize Z.getD (m + 1) 0 = u at *
              generalize Z.getD m 0 = v at *
              have d1 : decide ((x : Int) < (y : Int)) = false := by simp; omega
              have d2 : decide ((v : Int) < (u : Int)) = false := by simp; omega
              have d3 : decide (x < y) = false := decide_eq_false (by omega)
              have d4 : decide (v < u) = false := decide_eq_false (by omega)
              clear hcf hcl hE1 hE2 hJ hE3 hE4
              go_wp2_with fail
              go_quiet (fail)
              go_wp2_with fail
              exact ⟨⟨m + 1 + 1, q + nq, by omega, by go_num, rfl⟩, by simp [intOf]; omega⟩
          · obtain rfl : t = i := by omega
            clear hlt hrf5 hrl HENDD
            go_wp2_with fail
            obtain ⟨c, hc⟩ : ∃ c, decide (A < B) = c := ⟨_, rfl⟩
            obtain ⟨d, hd⟩ : ∃ d, decide (A = B) = d := ⟨_, rfl⟩
            rw [hc] at HLX
            rw [hd] at HIJ
            have hcI : decide ((A : Int) < (B : Int)) = c := by rw [← hc, decide_eq_decide]; omega
            have hdI : ((A : Int) == (B : Int)) = d := by
              rw [← hd]
              by_cases h : A = B
              · subst h; simp
              · have h' : ¬ ((A : Int) = (B : Int)) := by omega
                rw [beq_eq_false_iff_ne.2 h', decide_eq_false h]
            have hdN : (A == B) = d := by
              rw [← hd]
              by_cases h : A = B
              · subst h; simp
              · rw [beq_eq_false_iff_ne.2 h, decide_eq_false h]
            have hcc : (c == c) = true := by cases c <;> rfl
            have hdd : (d == d) = true := by cases d <;> rfl
            go_loopw [19, 20] (fun less i wr => ∃ i' q : Nat, i' ≤ t ∧ i = .int .i64 (i' : Int) ∧ less = .bool false ∧ (∀ j, j < i' → X.getD j 0 = Y.getD j 0) ∧ wr = w5.drewN q) (fun _ i _ => t - (intOf i).toNat)
            case atStart => exact ⟨0, q, by omega, rfl, rfl, by omega, rfl⟩
            case round =>
              obtain ⟨i, q, hit, rfl, rfl, hall, rfl⟩ := hrel
              have HALL := Lib.hid hall
              clear hall
              by_cases hlt : i < t
              · obtain ⟨gx, xo, rfl, hcx⟩ := rowcells hrx (by omega) HXN.out
                obtain ⟨gy, yo, rfl, hcy⟩ := rowcells hry (by omega) HYN.out
                have c1 := hcx i hlt
                have c2 := hcy i hlt
                have i0 : (0 : Int) ≤ (i : Int) := by omega
                have it : (i : Int) < (t : Int) := by omega
                obtain ⟨x, hx⟩ : ∃ x, X.getD i 0 = x := ⟨_, rfl⟩
                obtain ⟨y, hy⟩ : ∃ y, Y.getD i 0 = y := ⟨_, rfl⟩
                have HX := Lib.hid hx
                have HY := Lib.hid hy
                rw [hx] at c1
                rw [hy] at c2
                clear hcx hcy hx hy
                by_cases hxy : x = y
                · subst hxy
                  have HN2 : Hid (∀ j, j < i + 1 → X.getD j 0 = Y.getD j 0) := by
                    intro j hj
                    by_cases hji : j < i
                    · exact HALL.out j hji
                    · obtain rfl : j = i := by omega
                      rw [HX.out, HY.out]
                  go_wp2_with fail
                  go_quiet (fail)
                  go_wp2_with fail
                  exact ⟨⟨i + 1, q + nq, by omega, by go_num, rfl, HN2.out, rfl⟩, by simp [intOf]; omega⟩
                · have hne : ((x : Int) != (y : Int)) = true := by simp; omega
                  have hneN : (x != y) = true := by simp; exact hxy
                  have hlx := lexB_at X Y i (by rw [HXN.out]; exact hlt) (by rw [HYN.out]; exact hlt) HALL.out (by rw [HX.out, HY.out]; exact hxy)
                  rw [HLX.out, HX.out, HY.out] at hlx
                  have hltI : decide ((x : Int) < (y : Int)) = c := by rw [hlx, decide_eq_decide]; omega
                  have hltN : decide (x < y) = c := hlx.symm
                  clear hlx
                  go_wp2_with fail
                  go_quiet (fail)
                  generalize nq = nq1 at *
                  go_wp2_with fail
                  go_quiet (fail)
                  have hw6 : Below w5.heap.size w5 (((w5.drewN q).drewN nq1).drewN nq) := below_drewN (below_drewN (below_drewN (Below.refl _ _) q) nq1) nq
                  generalize ((w5.drewN q).drewN nq1).drewN nq = w6 at hw6 ⊢
                  have hSA := same_any _ _ X Y _ _ w6 (hrx.below hw6) (hry.below hw6)
                  rw [HIJ.out] at hSA
                  have HSA := Lib.hid hSA
                  have hb6 := hb5.trans (hw6.mono hb5.size)
                  clear hSA hw6 hrx hry hb5 c1 c2
                  go_wp2_with fail
                  refine HSA.out.mono ?_
                  rintro z w7 ⟨rfl, hq⟩
                  have hb := hb6.trans (hq.mono hb6.size)
                  clear hq hb6 HSA
                  go_wp2_with (go_at_call 49; refine (awake_any _).mono ?_; rintro e w9 ⟨rfl, hq9⟩; replace hb := hb.trans (hq9.mono hb.size))
                  go_ret
                  exact ⟨rfl, hb⟩
              · obtain rfl : t = i := by omega
                have hXY : X = Y := ext_getD (by rw [HXN.out, HYN.out]) (fun j hj => HALL.out j (by rw [HXN.out] at hj; exact hj))
                have hcf : c = false := by rw [← HLX.out, hXY]; exact lexB_eq Y
                subst hcf
                clear hlt hXY
                go_wp2_with fail
                have hw6 : Below w5.heap.size w5 (w5.drewN q) := below_drewN (Below.refl _ _) q
                generalize w5.drewN q = w6 at hw6 ⊢
                have hSA := same_any _ _ X Y _ _ w6 (hrx.below hw6) (hry.below hw6)
                rw [HIJ.out] at hSA
                have HSA := Lib.hid hSA
                have hb6 := hb5.trans (hw6.mono hb5.size)
                clear hSA hw6 hrx hry hb5 
                go_wp2_with fail
                refine HSA.out.mono ?_
                rintro z w7 ⟨rfl, hq⟩
                have hb := hb6.trans (hq.mono hb6.size)
                clear hq hb6 HSA
                go_wp2_with (go_at_call 49; refine (awake_any _).mono ?_; rintro e w9 ⟨rfl, hq9⟩; replace hb := hb.trans (hq9.mono hb.size))
                go_ret
                exact ⟨rfl, hb⟩
end Go.Proofs.Ytplfhjahdepphaa.Ex
