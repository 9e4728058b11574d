/- Texts of this claim, laid together: Wp. -/
import Derived.Test.YtbefcdjcefmicaaGreatGps3
import Derived.Test.YtbefcdjcefmicaaGreatBase21
namespace Go.Proofs.YtbefcdjcefmicaaGreat.Em
open Go.ChangeShapes Go.WideShapes Go.ChangeAt Go.RowKit En
set_option linter.unusedVariables false
set_option linter.unusedSimpArgs false
set_option maxRecDepth 100000
set_option maxHeartbeats 1600000

set_option maxHeartbeats 16000000 in
theorem ops_law (a' n' : Int) (commit : Bool) (w : World) : Calls Tryz.prog 3 #[.int .i64 a', .int .i64 n', .bool commit] w fun e w' => e = .returned (.bool true) ∧ Below w.heap.size w w' := by
  obtain ⟨c, hc, hcs⟩ := mask_to a' 3 (by decide)
  obtain ⟨m, hm, hms⟩ := mask_to n' 21 (by decide)
  replace hcs : (bits .and .i64 a' 255).tmod 3 = (c : Int) := hcs
  replace hms : (bits .and .i64 n' 255).tmod 21 = (m : Int) := hms
  have n1 : IntKind.i64.wrap ((c : Int) + 1) = (c : Int) + 1 := by rw [IntKind.wrap_i64]; omega
  have hrun := opsRun_true (c + 1) (by omega) (by omega)
  unfold opsRun at hrun
  obtain ⟨W0, hb0, htr⟩ := thn_ok hrun
  have HN : Hid (Calls Tryz.prog 15 #[.int .i64 20, .int .u64 50] w fun e w' => ∃ B be, e = .returned (.pointer (some ⟨B.bw, 0, none⟩)) ∧ WK B be w [] (wNew 20 50) w') := wnew_any 20 50 (by omega) (by omega) (by omega) (by omega) w
  have HBg : Hid (∀ B be w1, WK B be w [] (wNew 20 50) w1 → Calls Tryz.prog 16 #[.pointer (some ⟨B.bw, 0, none⟩), .int .i64 2, .int .i64 ((c : Int) + 1)] w1 fun e w' => e = .returned (.bool true) ∧ ∃ B', B'.bw = B.bw ∧ WK B' be w [] W0 w') := fun B be w1 q => wbegin_any q (s := 2) (level := c + 1) (by omega) hb0
  have HAW := Lib.hid awake23
  have HT := Lib.hid htr
  have HM := Lib.hid hm
  clear hrun hb0 htr hc hm
  go_enter Tryz.func3, Tryz.ntmps3
  go_upto_region 6 with (first | (go_at_call 15; refine HN.out.mono ?_; rintro e w1 ⟨B, be, rfl, q⟩; have T1 := Lib.hid q; clear q) | (go_at_call 16; refine (HBg.out _ _ _ T1.out).mono ?_; rintro e w2 ⟨rfl, B1, hb, q⟩; have T2 := Lib.hid (And.intro hb q); clear q hb T1))
  clear HN HBg hcs hms n1
  obtain ⟨hbw, hw⟩ := T2.out
  generalize B.bw = bw at *
  subst hbw
  -- what every call of the engine does here
  have C : Hid (∀ ks σ w1, WK B1 be w ks { W0 with σ := σ } w1 → w1.cell? ⟨B1.bw, 0, none⟩ = some (.pointer (some ⟨be, 0, none⟩))) := fun ks σ w1 q => (q.wcell 0 rfl).1
  have SB : Hid (∀ ks σ b w1, (σ.status 2).busy = b → WK B1 be w ks { W0 with σ := σ } w1 → Calls Tryz.prog 18 #[.pointer (some ⟨be, 0, none⟩), .int .i64 2] w1 fun e w' => ∃ y1 y2 y3 y4 y5 y6 y7 y8, e = .returned (.agg #[y1, .bool b, y2, y3, y4, y5, y6, y7, y8]) ∧ WK B1 be w ks { W0 with σ := σ } w') := fun ks σ b w1 hb q => by
    have hh := status_wk q 2 (by omega)
    unfold statusCs at hh
    subst hb
    exact hh.mono fun e w' x => ⟨_, _, _, _, _, _, _, _, x.1, x.2⟩
  have SO : Hid (∀ ks σ (b : Nat) w1, (σ.status 2).ops = b → WK B1 be w ks { W0 with σ := σ } w1 → Calls Tryz.prog 18 #[.pointer (some ⟨be, 0, none⟩), .int .i64 2] w1 fun e w' => ∃ y1 y2 y3 y4 y5 y6 y7 y8, e = .returned (.agg #[y1, y2, y3, y4, y5, y6, y7, y8, .int .i64 (b : Int)]) ∧ WK B1 be w ks { W0 with σ := σ } w') := fun ks σ b w1 hb q => by
    have hh := status_wk q 2 (by omega)
    unfold statusCs at hh
    subst hb
    exact hh.mono fun e w' x => ⟨_, _, _, _, _, _, _, _, x.1, x.2⟩
  have SL : Hid (∀ ks σ b w1, (σ.status 2).live = b → WK B1 be w ks { W0 with σ := σ } w1 → Calls Tryz.prog 18 #[.pointer (some ⟨be, 0, none⟩), .int .i64 2] w1 fun e w' => ∃ y1 y2 y3 y4 y5 y6 y7 y8, e = .returned (.agg #[.bool b, y1, y2, y3, y4, y5, y6, y7, y8]) ∧ WK B1 be w ks { W0 with σ := σ } w') := fun ks σ b w1 hb q => by
    have hh := status_wk q 2 (by omega)
    unfold statusCs at hh
    subst hb
    exact hh.mono fun e w' x => ⟨_, _, _, _, _, _, _, _, x.1, x.2⟩
  have SP : Hid (∀ ks σ σ' kd r w1, oneStep σ 2 = some (σ', kd, r) → WK B1 be w ks { W0 with σ := σ } w1 → Calls Tryz.prog 19 #[.pointer (some ⟨be, 0, none⟩), .int .i64 2] w1 fun e w' => ∃ va vn vc, e = .returned (.tuple #[.agg #[.int .i64 (kd : Int), .int .i64 (r.e : Int), .int .i64 (r.value : Int), .slice va vn vc, .int .i64 (r.over : Int), .int .i64 (r.reason : Int)], .int .i64 0]) ∧ WK B1 be w (.row 2 (.slice va vn vc) (pairCs r.pairs) :: ks) { W0 with σ := σ' } w') := fun ks σ σ' kd r w1 hst q => by
    refine (step_wk q (s := 2) (by omega) hst).mono ?_
    rintro e w' ⟨va, vn, vc, rfl, _, q⟩
    exact ⟨va, vn, vc, rfl, q⟩
  have T3 : Hid (WK B1 be w [] { W0 with σ := W0.σ } w2) := Lib.hid hw
  clear hw T2
  go_loopw [8] (fun i wr => ∃ (k : Nat) (σ : St) (ks : List Kept), i = .int .i64 (k : Int) ∧ k ≤ m ∧ opsTrail (12 - k) (min k 12) σ = true ∧ WK B1 be w ks { W0 with σ := σ } wr) (fun i _ => m - (intOf i).toNat)
  case atStart => exact ⟨0, W0.σ, [], rfl, Nat.zero_le _, HT.out, T3.out⟩
  case round =>
    clear HT T3
    obtain ⟨k, σ, ks, rfl, hkm, htr, hw⟩ := hrel
    have hm := HM.out
    by_cases hlt : k < m
    · obtain ⟨fv, σ1, σ2, hfv, HI, hrb, hop, htr2⟩ : ∃ (fv : Int) (σ1 σ2 : St), ((k < 12 ∧ fv = 0) ∨ (12 ≤ k ∧ fv = 65)) ∧ (∀ ks w1, WK B1 be w ks { W0 with σ := σ } w1 → Calls Tryz.prog 17 #[.pointer (some ⟨be, 0, none⟩), .int .i64 2, .agg #[.int .i64 1, .int .i64 (k : Int), .int .i64 0, .int .i64 0]] w1 fun e w' => e = .returned (.int .i64 fv) ∧ WK B1 be w ks { W0 with σ := σ1 } w') ∧ runBusy 1000 σ1 = some σ2 ∧ (σ2.status 2).ops = min (k + 1) 12 ∧ opsTrail (12 - (k + 1)) (min (k + 1) 12) σ2 = true := by
        rcases Nat.lt_or_ge k 12 with h12 | h12
        · rw [show 12 - k = (11 - k) + 1 by omega, show min k 12 = k by omega] at htr
          obtain ⟨σ1, σ2, e1, e2, e3, e4⟩ := opsTrail_next htr
          refine ⟨0, σ1, σ2, .inl ⟨h12, rfl⟩, fun ks w1 q => issue_wk q (s := 2) (o := ⟨1, k, 0, 0⟩) (by omega) e1, e2, by omega, ?_⟩
          rw [show 12 - (k + 1) = 11 - k by omega, show min (k + 1) 12 = k + 1 by omega]
          exact e4
        · rw [show 12 - k = 0 by omega, show min k 12 = 12 by omega] at htr
          obtain ⟨t, e1, e2, e3, e4, e5⟩ := opsTrail_full htr
          refine ⟨65, σ, σ, .inr ⟨h12, rfl⟩, fun ks w1 q => ?_, ?_, by omega, ?_⟩
          · obtain ⟨A, rfl, l, r, g, tt⟩ := q.ex
            refine (issue_many l 2 (by omega) t e1 ⟨1, k, 0, 0⟩ (by unfold opOk; simp; omega) rfl e3 e2).mono ?_
            rintro e w' ⟨rfl, hb⟩
            exact ⟨rfl, WK.below ⟨A, rfl, l, r, g, tt⟩ hb⟩
          · unfold runBusy
            rw [if_neg (by rw [e5]; decide)]
          · rw [show 12 - (k + 1) = 0 by omega, show min (k + 1) 12 = 12 by omega]
            exact htr
      have HI' := Lib.hid HI
      have HX := Lib.hid (And.intro hkm (And.intro hlt htr2))
      have HO := Lib.hid hop
      have HRB := Lib.hid hrb
      have x0 := C.out _ _ _ hw
      have b0 : ((k : Int) < (m : Int)) = True := by simp; omega
      have b1 : (k : Int) < (m : Int) := by omega
      have n1 : IntKind.i64.wrap ((k : Int) + 1) = (k : Int) + 1 := by rw [IntKind.wrap_i64]; omega
      have mi : min ((k : Int) + 1) 12 = ((min (k + 1) 12 : Nat) : Int) := by omega
      have T4 := Lib.hid hw
      have hfd : (((k : Int) < 12) = True ∧ decide ((k : Int) < 12) = true ∧ (k < 12) = True ∧ fv = 0) ∨ (((k : Int) < 12) = False ∧ decide ((k : Int) < 12) = false ∧ (k < 12) = False ∧ fv = 65) := by
        rcases hfv with ⟨h1, h2⟩ | ⟨h1, h2⟩
        · exact .inl ⟨by simp; omega, by simp; omega, by simp; omega, h2⟩
        · exact .inr ⟨by simp; omega, by simp; omega, by simp; omega, h2⟩
      clear HI hkm hlt htr2 hop hrb hw htr hm hfv
      generalize hmk : min (k + 1) 12 = mk at *
      have HMK := Lib.hid hmk
      clear hmk
      rcases hfd with ⟨f1, f2, f3, rfl⟩ | ⟨f1, f2, f3, rfl⟩
      all_goals (
        go_upto_region 12 with (go_at_call 17; refine (HI'.out _ _ T4.out).mono ?_; clear T4; rintro e w4 ⟨rfl, q⟩; have T5 := Lib.hid q; clear q)
        go_loopw [10] (fun i wr => ∃ (j f : Nat) (σj : St) (ks : List Kept), i = .int .i64 (j : Int) ∧ j + f = 1000 ∧ runBusy f σj = some σ2 ∧ WK B1 be w ks { W0 with σ := σj } wr) (fun i _ => 1000 - (intOf i).toNat)
        case atStart => exact ⟨0, 1000, σ1, _, rfl, rfl, HRB.out, T5.out⟩
        case round =>
          clear T5 HI' f1 f2 f3 x0 HRB
          obtain ⟨j, f, σj, ksj, rfl, hjf, hrb, hw⟩ := hrel
          cases f with
          | zero => cases hrb
          | succ f =>
          unfold runBusy at hrb
          have c0 : ((j : Int) < 20000) = True := by simp; omega
          have c1 : (j : Int) < 20000 := by omega
          have n2 : IntKind.i64.wrap ((j : Int) + 1) = (j : Int) + 1 := by rw [IntKind.wrap_i64]; omega
          have x0 := C.out _ _ _ hw
          have T6 := Lib.hid hw
          have HJ := Lib.hid hjf
          cases hbz : (σj.status 2).busy with
          | true =>
            rw [hbz, if_pos rfl] at hrb
            split at hrb
            · rename_i σk kd r hst
              have HS := Lib.hid (SP.out ksj σj σk kd r)
              have HST := Lib.hid hst
              have HBZ := Lib.hid hbz
              have HR := Lib.hid hrb
              clear hrb hbz hst hjf hw
              go_wp2_with (first | (go_at_call 18; refine (SB.out _ _ _ _ HBZ.out T6.out).mono ?_; rintro e w6 ⟨y1, y2, y3, y4, y5, y6, y7, y8, rfl, q⟩; have hf := fld_busy (.bool true) y1 y2 y3 y4 y5 y6 y7 y8; have x1 := C.out _ _ _ q; have T7 := Lib.hid q; clear q T6) | (go_at_call 19; refine (HS.out _ HST.out T7.out).mono ?_; rintro e w7 ⟨va, vn, vc, rfl, q⟩; have T8 := Lib.hid (q.alloc (.cells #[.int .i64 (kd : Int), .int .i64 (r.e : Int), .int .i64 (r.value : Int), .slice va vn vc, .int .i64 (r.over : Int), .int .i64 (r.reason : Int)] 44)); clear q T7))
              go_roundw
              case rel => exact ⟨j + 1, f, σk, _, rfl, by have := HJ.out; omega, HR.out, T8.out⟩
              case measure => have := HJ.out; simp [intOf]; omega
            · cases hrb
          | false =>
            rw [hbz, if_neg (by decide)] at hrb
            obtain rfl := Option.some.inj hrb
            have HBZ := Lib.hid hbz
            clear hrb hbz hjf hw
            go_wp2_with (first | (go_at_call 18; refine (SB.out _ _ _ _ HBZ.out T6.out).mono ?_; rintro e w6 ⟨y1, y2, y3, y4, y5, y6, y7, y8, rfl, q⟩; have hf := fld_busy (.bool false) y1 y2 y3 y4 y5 y6 y7 y8; have x1 := C.out _ _ _ q; have T7 := Lib.hid q; clear q T6) | (go_at_call 18; refine (SO.out _ _ _ _ HO.out T7.out).mono ?_; rintro e w7 ⟨y1, y2, y3, y4, y5, y6, y7, y8, rfl, q⟩; have hf8 := fld_ops (.int .i64 (mk : Int)) y1 y2 y3 y4 y5 y6 y7 y8; have T8 := Lib.hid q; clear q T7))
            go_roundw
            case rel => exact ⟨k + 1, σj, _, rfl, HX.out.2.1, (by rw [HMK.out]; exact HX.out.2.2), T8.out⟩
            case measure => have := HX.out.2.1; simp [intOf]; omega
      )
    · obtain ⟨e6, e7⟩ := opsTrail_end _ _ _ htr
      have b0 : ((k : Int) < (m : Int)) = False := by simp; omega
      have b1 : decide ((k : Int) < (m : Int)) = false := by simp; omega
      have b2 : (k < m) = False := by simp; omega
      have x0 := C.out _ _ _ hw
      have T4 := Lib.hid hw
      clear hkm htr hw hm hlt SB SO
      cases commit with
      | true =>
        have hee := e6
        unfold opsEnd at hee
        obtain ⟨σ1, hi, hee⟩ := thn_ok hee
        obtain ⟨⟨σe, re⟩, hl, hee⟩ := thn_ok hee
        have hfin := of_decide_eq_true hee
        simp only at hfin
        obtain ⟨hov, her, hlv⟩ := hfin
        have HL := Lib.hid (And.intro hl hlv)
        have HIS : Hid (∀ ks w1, WK B1 be w ks { W0 with σ := σ } w1 → Calls Tryz.prog 17 #[.pointer (some ⟨be, 0, none⟩), .int .i64 2, .agg #[.int .i64 6, .int .i64 0, .int .i64 0, .int .i64 0]] w1 fun e w' => e = .returned (.int .i64 0) ∧ WK B1 be w ks { W0 with σ := σ1 } w') := fun ks w1 q => issue_wk q (s := 2) (o := ⟨6, 0, 0, 0⟩) (by omega) hi
        have HQ := Lib.hid (And.intro hov her)
        clear hee hi hl hlv hov her e6 e7
        go_upto_region 22 with fail
        have T5 := Lib.hid (T4.out.alloc (.cells #[.int .i64 6, .int .i64 0, .int .i64 0, .int .i64 0] 31))
        generalize wr.heap.size = g0 at *
        generalize wr.alloc _ = v5 at *
        have x5 := C.out _ _ _ T5.out
        have hb5 := T5.out.obj List.mem_cons_self
        have y0 := obj_cell hb5 0 rfl
        have y1 := obj_cell hb5 1 rfl
        have y2 := obj_cell hb5 2 rfl
        have y3 := obj_cell hb5 3 rfl
        have T5d := Lib.hid T5.out.drew
        have HK2 : Hid (∀ w', WK B1 be w (.obj g0 (.cells #[.int .i64 6, .int .i64 0, .int .i64 0, .int .i64 0] 31) :: ks) { W0 with σ := σ1 } w' → w'.cell? ⟨B1.bw, 0, none⟩ = some (.pointer (some ⟨be, 0, none⟩)) ∧ w'.cell? ⟨g0, 0, none⟩ = some (.int .i64 6) ∧ w'.cell? ⟨g0, 1, none⟩ = some (.int .i64 0) ∧ w'.cell? ⟨g0, 2, none⟩ = some (.int .i64 0) ∧ w'.cell? ⟨g0, 3, none⟩ = some (.int .i64 0)) := fun w' q => by
          have hb := q.obj List.mem_cons_self
          exact ⟨C.out _ _ _ q, obj_cell hb 0 rfl, obj_cell hb 1 rfl, obj_cell hb 2 rfl, obj_cell hb 3 rfl⟩
        clear hb5 T4 x0
        go_region_held3 (fun w' => w'.cell? ⟨B1.bw, 0, none⟩ = some (.pointer (some ⟨be, 0, none⟩)) ∧ w'.cell? ⟨g0, 0, none⟩ = some (.int .i64 6) ∧ w'.cell? ⟨g0, 1, none⟩ = some (.int .i64 0) ∧ w'.cell? ⟨g0, 2, none⟩ = some (.int .i64 0) ∧ w'.cell? ⟨g0, 3, none⟩ = some (.int .i64 0))
          (first | exact ⟨x5, y0, y1, y2, y3⟩ | assumption | go_keep | exact HK2.out _ (by assumption))
          (first | (go_at_call 17; refine (HIS.out _ _ T5d.out).mono ?_; rintro e w6 ⟨rfl, q⟩))
        have T6 := Lib.hid q
        clear q T5 T5d HK2 x5 y0 y1 y2 y3 HIS
        go_upto_region 25 with fail
        go_loopw [15] (fun i wr => ∃ (j f : Nat) (σj : St) (ks : List Kept), i = .int .i64 (j : Int) ∧ j + f = 1000 ∧ runLast2 f σj = some (σe, re) ∧ WK B1 be w ks { W0 with σ := σj } wr) (fun i _ => 1000 - (intOf i).toNat)
        case atStart => exact ⟨0, 1000, σ1, _, rfl, rfl, HL.out.1, T6.out⟩
        case round =>
          clear T6 b0 b1 b2
          obtain ⟨j, f, σj, ksj, rfl, hjf, hrl, hw⟩ := hrel
          cases f with
          | zero => cases hrl
          | succ f =>
          unfold runLast2 at hrl
          split at hrl
          · rename_i σk kd r hst
            have c0 : ((j : Int) < 20000) = True := by simp; omega
            have c1 : (j : Int) < 20000 := by omega
            have n2 : IntKind.i64.wrap ((j : Int) + 1) = (j : Int) + 1 := by rw [IntKind.wrap_i64]; omega
            have x0 := C.out _ _ _ hw
            have T7 := Lib.hid hw
            have HJ := Lib.hid hjf
            have HS := Lib.hid (SP.out ksj σj σk kd r)
            have HST := Lib.hid hst
            have D : Hid (∀ ks1 w1 g va vn vc, WK B1 be w (.obj g (.cells #[.int .i64 (kd : Int), .int .i64 (r.e : Int), .int .i64 (r.value : Int), .slice va vn vc, .int .i64 (r.over : Int), .int .i64 (r.reason : Int)] 44) :: ks1) { W0 with σ := σk } w1 → w1.cell? ⟨g, 0, none⟩ = some (.int .i64 (kd : Int)) ∧ w1.cell? ⟨g, 1, none⟩ = some (.int .i64 (r.e : Int)) ∧ w1.cell? ⟨g, 4, none⟩ = some (.int .i64 (r.over : Int)) ∧ w1.cell? ⟨B1.bw, 0, none⟩ = some (.pointer (some ⟨be, 0, none⟩))) := fun ks1 w1 g va vn vc q => by
              have hb := q.obj List.mem_cons_self
              exact ⟨obj_cell hb 0 rfl, obj_cell hb 1 rfl, obj_cell hb 4 rfl, C.out _ _ _ q⟩
            by_cases hkd : kd = 3
            · rw [if_pos hkd] at hrl
              simp only [Option.some.injEq, Prod.mk.injEq] at hrl
              obtain ⟨rfl, rfl⟩ := hrl
              subst hkd
              obtain ⟨hov, her⟩ := HQ.out
              rw [hov, her] at D
              clear hov her hst hjf hw
              go_wp2_with (first | (go_at_call 19; refine (HS.out _ HST.out T7.out).mono ?_; rintro e w7 ⟨va, vn, vc, rfl, q⟩; rw [HQ.out.1, HQ.out.2] at *; have q2 := q.alloc (.cells #[.int .i64 3, .int .i64 0, .int .i64 (r.value : Int), .slice va vn vc, .int .i64 3, .int .i64 (r.reason : Int)] 44); obtain ⟨z0, z1, z4, x8⟩ := D.out _ _ _ va vn vc q2; have T8 := Lib.hid q2; clear q q2 T7) | (go_at_call 18; refine (SL.out _ _ _ _ HL.out.2 T8.out).mono ?_; rintro e w8 ⟨y1, y2, y3, y4, y5, y6, y7, y8, rfl, q⟩; have hf := fld_live (.bool false) y1 y2 y3 y4 y5 y6 y7 y8; have T9 := Lib.hid q; clear q T8) | (go_at_call 20; refine (HAW.out _).mono ?_; rintro e w9 ⟨rfl, hb⟩; have T10 := Lib.hid (T9.out.below hb); clear hb T9))
              go_ret
              exact ⟨rfl, T10.out.toBelow⟩
            · rw [if_neg hkd] at hrl
              have HR := Lib.hid hrl
              have k1 : ((kd : Int) == 3) = false := by simp; omega
              have k2 : ((kd : Int) = 3) = False := by simp; omega
              have k3 : (kd = 3) = False := by simp; omega
              clear hrl hkd hst hjf hw
              go_wp2_with (first | (go_at_call 19; refine (HS.out _ HST.out T7.out).mono ?_; rintro e w7 ⟨va, vn, vc, rfl, q⟩; have q2 := q.alloc (.cells #[.int .i64 (kd : Int), .int .i64 (r.e : Int), .int .i64 (r.value : Int), .slice va vn vc, .int .i64 (r.over : Int), .int .i64 (r.reason : Int)] 44); obtain ⟨z0, z1, z4, x8⟩ := D.out _ _ _ va vn vc q2; have T8 := Lib.hid q2; clear q q2 T7))
              go_roundw
              case rel => exact ⟨j + 1, f, σk, _, rfl, by have := HJ.out; omega, HR.out, T8.out⟩
              case measure => have := HJ.out; simp [intOf]; omega
          · cases hrl
      | false =>
        have hee := e7
        unfold opsEnd at hee
        obtain ⟨σ1, hi, hee⟩ := thn_ok hee
        obtain ⟨⟨σe, re⟩, hl, hee⟩ := thn_ok hee
        have hfin := of_decide_eq_true hee
        simp only at hfin
        obtain ⟨hov, her, hlv⟩ := hfin
        have HL := Lib.hid (And.intro hl hlv)
        have HIS : Hid (∀ ks w1, WK B1 be w ks { W0 with σ := σ } w1 → Calls Tryz.prog 17 #[.pointer (some ⟨be, 0, none⟩), .int .i64 2, .agg #[.int .i64 7, .int .i64 0, .int .i64 0, .int .i64 0]] w1 fun e w' => e = .returned (.int .i64 0) ∧ WK B1 be w ks { W0 with σ := σ1 } w') := fun ks w1 q => issue_wk q (s := 2) (o := ⟨7, 0, 0, 0⟩) (by omega) hi
        have HQ := Lib.hid (And.intro hov her)
        clear hee hi hl hlv hov her e6 e7
        go_upto_region 22 with fail
        have T5 := Lib.hid (T4.out.alloc (.cells #[.int .i64 7, .int .i64 0, .int .i64 0, .int .i64 0] 31))
        generalize wr.heap.size = g0 at *
        generalize wr.alloc _ = v5 at *
        have x5 := C.out _ _ _ T5.out
        have hb5 := T5.out.obj List.mem_cons_self
        have y0 := obj_cell hb5 0 rfl
        have y1 := obj_cell hb5 1 rfl
        have y2 := obj_cell hb5 2 rfl
        have y3 := obj_cell hb5 3 rfl
        have T5d := Lib.hid T5.out.drew
        have HK2 : Hid (∀ w', WK B1 be w (.obj g0 (.cells #[.int .i64 7, .int .i64 0, .int .i64 0, .int .i64 0] 31) :: ks) { W0 with σ := σ1 } w' → w'.cell? ⟨B1.bw, 0, none⟩ = some (.pointer (some ⟨be, 0, none⟩)) ∧ w'.cell? ⟨g0, 0, none⟩ = some (.int .i64 7) ∧ w'.cell? ⟨g0, 1, none⟩ = some (.int .i64 0) ∧ w'.cell? ⟨g0, 2, none⟩ = some (.int .i64 0) ∧ w'.cell? ⟨g0, 3, none⟩ = some (.int .i64 0)) := fun w' q => by
          have hb := q.obj List.mem_cons_self
          exact ⟨C.out _ _ _ q, obj_cell hb 0 rfl, obj_cell hb 1 rfl, obj_cell hb 2 rfl, obj_cell hb 3 rfl⟩
        clear hb5 T4 x0
        go_region_held3 (fun w' => w'.cell? ⟨B1.bw, 0, none⟩ = some (.pointer (some ⟨be, 0, none⟩)) ∧ w'.cell? ⟨g0, 0, none⟩ = some (.int .i64 7) ∧ w'.cell? ⟨g0, 1, none⟩ = some (.int .i64 0) ∧ w'.cell? ⟨g0, 2, none⟩ = some (.int .i64 0) ∧ w'.cell? ⟨g0, 3, none⟩ = some (.int .i64 0))
          (first | exact ⟨x5, y0, y1, y2, y3⟩ | assumption | go_keep | exact HK2.out _ (by assumption))
          (first | (go_at_call 17; refine (HIS.out _ _ T5d.out).mono ?_; rintro e w6 ⟨rfl, q⟩))
        have T6 := Lib.hid q
        clear q T5 T5d HK2 x5 y0 y1 y2 y3 HIS
        go_upto_region 25 with fail
        go_loopw [15] (fun i wr => ∃ (j f : Nat) (σj : St) (ks : List Kept), i = .int .i64 (j : Int) ∧ j + f = 1000 ∧ runLast2 f σj = some (σe, re) ∧ WK B1 be w ks { W0 with σ := σj } wr) (fun i _ => 1000 - (intOf i).toNat)
        case atStart => exact ⟨0, 1000, σ1, _, rfl, rfl, HL.out.1, T6.out⟩
        case round =>
          clear T6 b0 b1 b2
          obtain ⟨j, f, σj, ksj, rfl, hjf, hrl, hw⟩ := hrel
          cases f with
          | zero => cases hrl
          | succ f =>
          unfold runLast2 at hrl
          split at hrl
          · rename_i σk kd r hst
            have c0 : ((j : Int) < 20000) = True := by simp; omega
            have c1 : (j : Int) < 20000 := by omega
            have n2 : IntKind.i64.wrap ((j : Int) + 1) = (j : Int) + 1 := by rw [IntKind.wrap_i64]; omega
            have x0 := C.out _ _ _ hw
            have T7 := Lib.hid hw
            have HJ := Lib.hid hjf
            have HS := Lib.hid (SP.out ksj σj σk kd r)
            have HST := Lib.hid hst
            have D : Hid (∀ ks1 w1 g va vn vc, WK B1 be w (.obj g (.cells #[.int .i64 (kd : Int), .int .i64 (r.e : Int), .int .i64 (r.value : Int), .slice va vn vc, .int .i64 (r.over : Int), .int .i64 (r.reason : Int)] 44) :: ks1) { W0 with σ := σk } w1 → w1.cell? ⟨g, 0, none⟩ = some (.int .i64 (kd : Int)) ∧ w1.cell? ⟨g, 1, none⟩ = some (.int .i64 (r.e : Int)) ∧ w1.cell? ⟨g, 4, none⟩ = some (.int .i64 (r.over : Int)) ∧ w1.cell? ⟨B1.bw, 0, none⟩ = some (.pointer (some ⟨be, 0, none⟩))) := fun ks1 w1 g va vn vc q => by
              have hb := q.obj List.mem_cons_self
              exact ⟨obj_cell hb 0 rfl, obj_cell hb 1 rfl, obj_cell hb 4 rfl, C.out _ _ _ q⟩
            by_cases hkd : kd = 3
            · rw [if_pos hkd] at hrl
              simp only [Option.some.injEq, Prod.mk.injEq] at hrl
              obtain ⟨rfl, rfl⟩ := hrl
              subst hkd
              obtain ⟨hov, her⟩ := HQ.out
              rw [hov, her] at D
              clear hov her hst hjf hw
              go_wp2_with (first | (go_at_call 19; refine (HS.out _ HST.out T7.out).mono ?_; rintro e w7 ⟨va, vn, vc, rfl, q⟩; rw [HQ.out.1, HQ.out.2] at *; have q2 := q.alloc (.cells #[.int .i64 3, .int .i64 0, .int .i64 (r.value : Int), .slice va vn vc, .int .i64 4, .int .i64 (r.reason : Int)] 44); obtain ⟨z0, z1, z4, x8⟩ := D.out _ _ _ va vn vc q2; have T8 := Lib.hid q2; clear q q2 T7) | (go_at_call 18; refine (SL.out _ _ _ _ HL.out.2 T8.out).mono ?_; rintro e w8 ⟨y1, y2, y3, y4, y5, y6, y7, y8, rfl, q⟩; have hf := fld_live (.bool false) y1 y2 y3 y4 y5 y6 y7 y8; have T9 := Lib.hid q; clear q T8) | (go_at_call 20; refine (HAW.out _).mono ?_; rintro e w9 ⟨rfl, hb⟩; have T10 := Lib.hid (T9.out.below hb); clear hb T9))
              go_ret
              exact ⟨rfl, T10.out.toBelow⟩
            · rw [if_neg hkd] at hrl
              have HR := Lib.hid hrl
              have k1 : ((kd : Int) == 3) = false := by simp; omega
              have k2 : ((kd : Int) = 3) = False := by simp; omega
              have k3 : (kd = 3) = False := by simp; omega
              clear hrl hkd hst hjf hw
              go_wp2_with (first | (go_at_call 19; refine (HS.out _ HST.out T7.out).mono ?_; rintro e w7 ⟨va, vn, vc, rfl, q⟩; have q2 := q.alloc (.cells #[.int .i64 (kd : Int), .int .i64 (r.e : Int), .int .i64 (r.value : Int), .slice va vn vc, .int .i64 (r.over : Int), .int .i64 (r.reason : Int)] 44); obtain ⟨z0, z1, z4, x8⟩ := D.out _ _ _ va vn vc q2; have T8 := Lib.hid q2; clear q q2 T7))
              go_roundw
              case rel => exact ⟨j + 1, f, σk, _, rfl, by have := HJ.out; omega, HR.out, T8.out⟩
              case measure => have := HJ.out; simp [intOf]; omega
          · cases hrl
end Go.Proofs.YtbefcdjcefmicaaGreat.Em
