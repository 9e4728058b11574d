/- Texts of this claim, laid together: Ovr. -/
import Derived.Test.YtdgombgcjeelpaaGreatM24er
import Derived.Test.YtdgombgcjeelpaaGreatM3er
import Derived.Deep.Cut
namespace Go.Proofs.YtdgombgcjeelpaaGreat.Em
open Go.ChangeShapes Go.WideShapes Go.ChangeAt Go.RowKit En
set_option linter.unusedVariables false
set_option linter.unusedSimpArgs false
set_option maxRecDepth 100000
set_option maxHeartbeats 1600000

theorem mask_to (x : Int) (m : Nat) (hm : 0 < m) : ∃ n : Nat, n < m ∧ (bits .and .i64 x 255).tmod (m : Int) = (n : Int) := by
  rw [Bt.i64_and255]
  have h0 : 0 ≤ x % 256 := Int.emod_nonneg _ (by decide)
  have h1 := Int.tmod_nonneg (m : Int) h0
  have h2 := Int.tmod_lt_of_pos (x % 256) (b := (m : Int)) (by omega)
  exact ⟨((x % 256).tmod m).toNat, by omega, by omega⟩
theorem overRun_ok {n level : Nat} (h : overRun n level = true) : ∃ σ1 id σ2 made, beginOk (new 100 n) 1 level = some (σ1, id) ∧ overLoop n level 50 σ1 0 = some (σ2, made) ∧ overEnd n level σ2 made = true := by
  unfold overRun at h
  split at h
  · rename_i σ1 id h1
    split at h
    · rename_i σ2 made h2
      exact ⟨σ1, id, σ2, made, h1, h2, h⟩
    · cases h
  · cases h
theorem overLoop_ok {n level f made m2 : Nat} {σ σ2 : St} (h : overLoop n level (f + 1) σ made = some (σ2, m2)) : σ.word 0 < 18446744073709551616 ∧
    ((σ.now + 2 ≤ n ∧ ∃ σ' r0 r, runWhole 1000 σ 0 level [⟨2, made, 0, 7⟩] = some (σ', [r0, r], 0) ∧ r.over = 3 ∧ overLoop n level f σ' (made + 1) = some (σ2, m2)) ∨ (¬ σ.now + 2 ≤ n ∧ σ = σ2 ∧ made = m2)) := by
  unfold overLoop at h
  split at h
  · rename_i h0
    refine ⟨h0, ?_⟩
    split at h
    · rename_i h1
      split at h
      · rename_i σ' r0 r hw
        split at h
        · rename_i ho
          exact .inl ⟨h1, σ', r0, r, hw, ho, h⟩
        · cases h
      · cases h
    · rename_i h1
      simp only [Option.some.injEq, Prod.mk.injEq] at h
      exact .inr ⟨h1, h.1, h.2⟩
  · cases h
theorem overEnd_ok {n level made : Nat} {σ2 : St} (h : overEnd n level σ2 made = true) : ∃ σ3 σ4 σ5 σ6 r, ((σ2.now < n ∧ ∃ id, beginOk σ2 2 level = some (σ3, id)) ∨ (¬ σ2.now < n ∧ σ3 = σ2)) ∧ beginNot σ3 3 level = some (σ4, 16) ∧ issueOk σ4 1 ⟨6, 0, 0, 0⟩ = some σ5 ∧ runDo 1000 σ5 1 = some (σ6, r, 0) ∧ r.over = 4 ∧ r.reason = 6 ∧ r.e = 14 ∧ σ6.now = n ∧ σ6.pairs.length = made ∧ okPairs σ6 = true ∧ σ6.word 0 < 18446744073709551616 := by
  unfold overEnd at h
  split at h
  · rename_i σ3 h3
    split at h
    · rename_i σ4 er h4
      simp only [Bool.and_eq_true, beq_iff_eq] at h
      obtain ⟨rfl, h⟩ := h
      split at h
      · rename_i σ5 h5
        split at h
        · rename_i σ6 r e6 h6
          simp only [Bool.and_eq_true, beq_iff_eq, decide_eq_true_eq] at h
          obtain ⟨⟨⟨⟨⟨⟨⟨rfl, g1⟩, g2⟩, g3⟩, g4⟩, g5⟩, g6⟩, g7⟩ := h
          refine ⟨σ3, σ4, σ5, σ6, r, ?_, h4, h5, h6, g1, g2, g3, g4, g5, g6, g7⟩
          split at h3
          · rename_i hn
            cases hb : beginOk σ2 2 level with
            | none => rw [hb] at h3; cases h3
            | some y =>
              rw [hb] at h3
              obtain ⟨a, b⟩ := y
              simp only [Option.map_some, Option.some.injEq] at h3
              exact .inl ⟨hn, b, by rw [h3]⟩
          · rename_i hn
            simp only [Option.some.injEq] at h3
            exact .inr ⟨hn, h3.symm⟩
        · cases h
      · cases h
    · cases h
  · cases h
theorem now_lt {σ : St} (h : σ.word 0 < 18446744073709551616) : σ.now < 281474976710656 := by unfold St.now timeOf; omega
theorem over_law (limit level : Int) (w : World) : Calls Tryz.prog 8 #[.int .i64 limit, .int .i64 level] w fun e w' => e = .returned (.bool true) ∧ Below w.heap.size w w' := by
  obtain ⟨n, hn, hns⟩ := mask_to limit 40 (by decide)
  obtain ⟨v, hv, hvs⟩ := mask_to level 3 (by decide)
  rw [show ((40 : Nat) : Int) = 40 from rfl] at hns
  rw [show ((3 : Nat) : Int) = 3 from rfl] at hvs
  have hall := over_all (n + 2) (v + 1) (by omega) (by omega) (by omega) (by omega)
  obtain ⟨σ1, id1, σ2, made, hb1, hlp, hend⟩ := overRun_ok hall
  clear hall
  have n1 : IntKind.u64.wrap (n : Int) = (n : Int) := by rw [IntKind.wrap_u64]; omega
  have n2 : IntKind.u64.wrap ((n : Int) + 2) = (n : Int) + 2 := by rw [IntKind.wrap_u64]; omega
  have n3 : IntKind.i64.wrap ((v : Int) + 1) = (v : Int) + 1 := by rw [IntKind.wrap_i64]; omega
  have HN : Hid (∀ w, Calls Tryz.prog 23 #[.agg #[.int .i64 100, .int .u64 ((n : Int) + 2)]] w fun e w' => ∃ b, e = .returned (.tuple #[.pointer (some ⟨b, 0, none⟩), .int .i64 0]) ∧ EAt b w (new 100 (n + 2)) w') := fun w => new_at 100 (n + 2) (by omega) (by omega) (by omega) (by omega) w
  have HB1 : Hid (∀ b w0 w1, EAt b w0 (new 100 (n + 2)) w1 → Calls Tryz.prog 35 #[.pointer (some ⟨b, 0, none⟩), .int .i64 1, .int .i64 ((v : Int) + 1)] w1 (EB b w0 σ1 (.tuple #[.int .i64 (id1 : Int), .int .i64 0]))) := fun b w0 w1 h => begin_at (s := 1) h (by decide) hb1
  have HLP := Lib.hid hlp
  have HE := Lib.hid hend
  clear hb1 hlp hend
  go_enter Tryz.func8, Tryz.ntmps8
  go_upto_region 2 with fail
  clear hns hvs n1 n2 n3
  have hn2 : n + 2 ≤ 41 := by omega
  generalize hnn : (n : Int) + 2 = nn at *
  generalize hvv : (v : Int) + 1 = vv at *
  go_upto_region 9 with (first | (go_at_call 23; refine (HN.out _).mono ?_; rintro e w1 ⟨b, rfl, q⟩; have T0 := Lib.hid q; clear q) | (go_at_call 35; refine (HB1.out _ _ _ T0.out).mono ?_; rintro e w1 ⟨rfl, q⟩; have T1 := Lib.hid q; clear q T0))
  clear HN HB1
  go_loopw [10] (fun i wr => ∃ (m f : Nat) (σ : St), i = .int .i64 (m : Int) ∧ m + f = 50 ∧ overLoop (n + 2) (v + 1) f σ m = some (σ2, made) ∧ EAt b w σ wr) (fun i _ => 50 - (intOf i).toNat)
  case atStart => exact ⟨0, 50, σ1, rfl, rfl, HLP.out, T1.out⟩
  case round =>
    clear HLP T1
    obtain ⟨m, f, σ, rfl, hmf, hlp, T1⟩ := hrel
    have T1 := Lib.hid T1
    cases f with
    | zero => cases hlp
    | succ f =>
    obtain ⟨hw0, hor⟩ := overLoop_ok hlp
    clear hlp
    have hnl := now_lt hw0
    have HNW : Hid (∀ w1, EAt b w σ w1 → Calls Tryz.prog 24 #[.pointer (some ⟨b, 0, none⟩)] w1 (EB b w σ (.int .u64 (σ.now : Int)))) := fun w1 h => now_at h hw0
    rcases hor with ⟨hc, σ', r0, r, hrun, hro, hnext⟩ | ⟨hc, e1, e2⟩
    · have HWH : Hid (∀ w1, EAt b w σ w1 → Calls Tryz.prog 36 #[.pointer (some ⟨b, 0, none⟩), .int .i64 0, .int .i64 vv, .slice (some ⟨w1.heap.size, 0, none⟩) 1 1] (w1.alloc (.cells #[.int .i64 2, .int .i64 (m : Int), .int .i64 0, .int .i64 7] 31)) fun e w' => ∃ rb ro rc, e = .returned (.tuple #[.slice (some ⟨rb, ro, none⟩) 2 rc, .int .i64 0]) ∧ EAt b w σ' w' ∧ w'.cell? ⟨rb, ro + 5 + 3, none⟩ = some (.int .i64 3)) := fun w1 h => by
        rw [← hvv]
        refine (whole_at h (ops := [⟨2, m, 0, 7⟩]) (level := v + 1) (s := 0) (#[.int .i64 2, .int .i64 (m : Int), .int .i64 0, .int .i64 7]) 1 (by decide) (by decide : (1000 : Nat) ≤ _) hrun rfl rfl (by omega) (by simp)).mono ?_
        rintro e w' ⟨rb, ro, rc, rfl, q1, q2⟩
        have q3 := (q2 1 r rfl).2.2.1
        rw [hro] at q3
        exact ⟨rb, ro, rc, rfl, q1, q3⟩
      have HX := Lib.hid (And.intro hmf hnext)
      have x1 : IntKind.u64.wrap ((σ.now : Int) + 2) = (σ.now : Int) + 2 := by rw [IntKind.wrap_u64]; omega
      have x2 : ((σ.now : Int) + 2 ≤ nn) = True := by simp; omega
      have x3 : decide ((σ.now : Int) + 2 ≤ nn) = true := by simp; omega
      have x4 : IntKind.i64.wrap ((m : Int) + 1) = (m : Int) + 1 := by rw [IntKind.wrap_i64]; omega
      generalize (σ.now : Int) = t at *
      clear hrun hnext hro
      go_wp2_with (first | (go_at_call 24; refine (HNW.out _ T1.out).mono ?_; rintro e w2 ⟨rfl, q⟩; have T2 := Lib.hid q; clear q T1) | (go_at_call 36; refine (HWH.out _ T2.out).mono ?_; rintro e w3 ⟨rb, ro, rc, rfl, q1, q2⟩; have T3 := Lib.hid q1; clear q1 T2))
      exact ⟨⟨m + 1, f, σ', rfl, by have := HX.out.1; omega, HX.out.2, T3.out⟩, by have := HX.out.1; simp [intOf]; omega⟩
    · have hE2 : overEnd (n + 2) (v + 1) σ m = true := by rw [e1, e2]; exact HE.out
      clear HE e1 e2
      obtain ⟨σ3, σ4, σ5, σ6, r, h3, h4, h5, h6, g1, g2, g3, g4, g5, g6, g7⟩ := overEnd_ok hE2
      clear hE2

      have HAW := Lib.hid awake24
      have HT := Lib.hid (And.intro g4 (And.intro g5 (And.intro g1 (And.intro g2 g3))))
      have HB3 : Hid (∀ w1, EAt b w σ3 w1 → Calls Tryz.prog 35 #[.pointer (some ⟨b, 0, none⟩), .int .i64 3, .int .i64 vv] w1 (EB b w σ4 (.tuple #[.int .i64 0, .int .i64 16]))) := fun w1 h => by
        rw [← hvv]
        exact beginNot_at (s := 3) h (by decide) h4
      have HDO : Hid (∀ w1, EAt b w σ4 w1 → Calls Tryz.prog 31 #[.pointer (some ⟨b, 0, none⟩), .int .i64 1, .agg #[.int .i64 6, .int .i64 0, .int .i64 0, .int .i64 0]] w1 fun e w' => ∃ va vn vc, e = .returned (.tuple #[.agg #[.int .i64 14, .int .i64 (r.value : Int), .slice va vn vc, .int .i64 4, .int .i64 6], .int .i64 0]) ∧ EAt b w σ6 w') := fun w1 h => by
        refine (do_at (s := 1) h (o := ⟨6, 0, 0, 0⟩) (by decide) h5 (by decide : (1000 : Nat) ≤ _) h6).mono ?_
        rintro e w' ⟨A, va, vn, vc, rfl, _, e1, e2, e3⟩
        rw [g1, g2, g3]
        exact ⟨va, vn, vc, rfl, A, e1, e2, e3⟩
      have HN6 : Hid (∀ w1, EAt b w σ6 w1 → Calls Tryz.prog 24 #[.pointer (some ⟨b, 0, none⟩)] w1 (EB b w σ6 (.int .u64 nn))) := fun w1 h => by
        have hh := now_at h g7
        rw [g4, show ((n + 2 : Nat) : Int) = nn from hnn] at hh
        exact hh
      have HPS : Hid (∀ w1, EAt b w σ6 w1 → Calls Tryz.prog 29 #[.pointer (some ⟨b, 0, none⟩)] w1 fun e w' => ∃ av cap, e = .returned (.slice av m cap) ∧ EAt b w σ6 w') := fun w1 h => by
        have hh := pairs_at h g6
        rw [g5] at hh
        refine hh.mono ?_
        rintro e w' ⟨av, cap, rfl, _, q⟩
        exact ⟨av, cap, rfl, q⟩
      clear h4 h5 h6 g1 g2 g3 g4 g5 g6 g7

      have x1 : IntKind.u64.wrap ((σ.now : Int) + 2) = (σ.now : Int) + 2 := by rw [IntKind.wrap_u64]; omega
      have x2 : ((σ.now : Int) + 2 ≤ nn) = False := by simp; omega
      have x3 : decide ((σ.now : Int) + 2 ≤ nn) = false := by simp; omega
      rcases h3 with ⟨hlt, id2, hb2⟩ | ⟨hlt, rfl⟩
      · have HB2 : Hid (∀ w1, EAt b w σ w1 → Calls Tryz.prog 35 #[.pointer (some ⟨b, 0, none⟩), .int .i64 2, .int .i64 vv] w1 (EB b w σ3 (.tuple #[.int .i64 (id2 : Int), .int .i64 0]))) := fun w1 h => by
          rw [← hvv]
          exact begin_at (s := 2) h (by decide) hb2
        have y2 : ((σ.now : Int) < nn) = True := by simp; omega
        have y3 : decide ((σ.now : Int) < nn) = true := by simp; omega
        clear hb2
        generalize (σ.now : Int) = t at *
        go_wp2_with (first | (go_at_call 24; refine (HNW.out _ T1.out).mono ?_; rintro e w2 ⟨rfl, q⟩; have T2 := Lib.hid q; clear q T1) | (go_at_call 24; refine (HNW.out _ T2.out).mono ?_; rintro e w2 ⟨rfl, q⟩; have T2b := Lib.hid q; clear q T2) | (go_at_call 35; refine (HB2.out _ T2b.out).mono ?_; rintro e w3 ⟨rfl, q⟩; have T3 := Lib.hid q; clear q T2b) | (go_at_call 35; refine (HB3.out _ T3.out).mono ?_; rintro e w4 ⟨rfl, q⟩; have T4 := Lib.hid q; clear q T3) | (go_at_call 31; refine (HDO.out _ T4.out).mono ?_; rintro e w5 ⟨va, vn, vc, rfl, q⟩; have T5 := Lib.hid q; clear q T4) | (go_at_call 24; refine (HN6.out _ (T5.out.alloc _)).mono ?_; rintro e w6 ⟨rfl, q⟩; have T6 := Lib.hid q; clear q T5) | (go_at_call 29; refine (HPS.out _ T6.out).mono ?_; rintro e w7 ⟨av, acap, rfl, q⟩; have T7 := Lib.hid q; clear q T6) | (go_at_call 22; refine (HAW.out _).mono ?_; rintro e w8 ⟨rfl, q⟩; have T8 := Lib.hid (T7.out.below q); clear q T7))
        go_ret
        exact ⟨rfl, T8.out.toBelow⟩
      · have y2 : ((σ3.now : Int) < nn) = False := by simp; omega
        have y3 : decide ((σ3.now : Int) < nn) = false := by simp; omega
        generalize (σ3.now : Int) = t at *
        go_wp2_with (first | (go_at_call 24; refine (HNW.out _ T1.out).mono ?_; rintro e w2 ⟨rfl, q⟩; have T2 := Lib.hid q; clear q T1) | (go_at_call 24; refine (HNW.out _ T2.out).mono ?_; rintro e w2 ⟨rfl, q⟩; have T3 := Lib.hid q; clear q T2) | (go_at_call 35; refine (HB3.out _ T3.out).mono ?_; rintro e w4 ⟨rfl, q⟩; have T4 := Lib.hid q; clear q T3) | (go_at_call 31; refine (HDO.out _ T4.out).mono ?_; rintro e w5 ⟨va, vn, vc, rfl, q⟩; have T5 := Lib.hid q; clear q T4) | (go_at_call 24; refine (HN6.out _ (T5.out.alloc _)).mono ?_; rintro e w6 ⟨rfl, q⟩; have T6 := Lib.hid q; clear q T5) | (go_at_call 29; refine (HPS.out _ T6.out).mono ?_; rintro e w7 ⟨av, acap, rfl, q⟩; have T7 := Lib.hid q; clear q T6) | (go_at_call 22; refine (HAW.out _).mono ?_; rintro e w8 ⟨rfl, q⟩; have T8 := Lib.hid (T7.out.below q); clear q T7))
        go_ret
        exact ⟨rfl, T8.out.toBelow⟩
end Go.Proofs.YtdgombgcjeelpaaGreat.Em
