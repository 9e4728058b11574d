/- Texts of this claim, laid together: Bow001, Bow010, Bow011, Bow100, Bow101. -/
import Derived.Test.YtdgombgcjeelpaaGreatGds1
import Derived.Deep.Cut
import Derived.Deep.RegionWith
namespace Go.Proofs.YtdgombgcjeelpaaGreat.Em
open Go.ChangeShapes Go.WideShapes Go.ChangeAt Go.RowKit En
set_option linter.unusedVariables false
set_option linter.unusedSimpArgs false
set_option maxRecDepth 100000
set_option maxHeartbeats 1600000

theorem bond_law001 (how' level' reader' : Int) (w : World) (hw0 : (bits .and .i64 how' 255).tmod 3 = 0) : Calls Tryz.prog 9 #[.int .i64 how', .int .i64 level', .int .i64 reader', .bool false, .bool true] w fun e w' => e = .returned (.bool true) ∧ Below w.heap.size w w' := by
  have hws := hw0
  obtain ⟨a, ha, has⟩ := mask_to level' 3 (by decide)
  obtain ⟨c, hc, hcs⟩ := mask_to reader' 3 (by decide)
  rw [show ((3 : Nat) : Int) = 3 from rfl] at has hcs
  obtain ⟨L, lv, hL1, hLv, hb1, hcase⟩ : ∃ (L : Nat) (lv : Int), (1 ≤ L ∧ L ≤ 3) ∧ (L : Int) = lv ∧ L ≠ 1 ∧ (((a : Int) + 1 = 1 ∧ lv = 3) ∨ ((a : Int) + 1 ≠ 1 ∧ lv = (a : Int) + 1)) := by
    by_cases ha0 : a = 0
    · exact ⟨3, 3, by omega, rfl, by omega, .inl ⟨by omega, rfl⟩⟩
    · exact ⟨a + 1, (a : Int) + 1, by omega, rfl, by omega, .inr ⟨by omega, rfl⟩⟩
  have hall := bond_all 0 L (c + 1) false true (by omega) hL1.1 hL1.2 (by omega) (by omega) (fun _ => hb1)
  obtain ⟨σ1, σ2, σ3, σ4, h1, h2, h3, h4, hend⟩ := bondRun_ok hall
  obtain ⟨σ5, i5, σ6, h5, h6, h7⟩ := bondRead_ok h4
  obtain ⟨σ7, σ8, r8, σ9, σ10, k10, r10, σ11, k11, r11, e1, e2, e3, e4, e5, e6, e7, e8⟩ := bondEnd_ok hend
  clear hall hend h4
  rw [if_pos rfl] at e8
  have n1 : IntKind.i64.wrap ((a : Int) + 1) = (a : Int) + 1 := by rw [IntKind.wrap_i64]; omega
  have n2 : IntKind.i64.wrap ((c : Int) + 1) = (c : Int) + 1 := by rw [IntKind.wrap_i64]; omega
  rw [show readOf 0 false = ⟨1, 3, 0, 0⟩ from rfl] at h6
  have HDI : Hid (∀ lv : Int, (L : Int) = lv → Calls Tryz.prog 37 #[.int .i64 0, .int .i64 lv, .bool true] w fun e w' => ∃ b, e = .returned (.pointer (some ⟨b, 0, none⟩)) ∧ EKt b w [] σ3 w') := fun lv hlv => dir_01 L lv hlv w σ1 σ2 σ3 h1 h2 h3
  have HAW := Lib.hid awake24
  clear h1 h2 h3
  go_enter Tryz.func9, Tryz.ntmps9
  go_upto_region 2 with fail
  generalize hcc : (c : Int) + 1 = cc at *
  generalize haa : (a : Int) + 1 = aa at *
  clear hws hw0 has hcs n1 n2
  rcases hcase with ⟨z1, z2⟩ | ⟨z1, z2⟩
  all_goals rw [z2] at hLv
  all_goals (first | (have f1 : (aa = 1) = True := (by simp; omega); have f2 : (aa == 1) = true := (by simp; omega); go_upto_region 7 with (go_at_call 37; refine (HDI.out _ hLv).mono ?_; rintro e w1 ⟨b, rfl, q⟩; have T0 := Lib.hid q; clear q); clear f1 f2) | (have f1 : (aa = 1) = False := (by simp; omega); have f2 : (aa == 1) = false := (by simp; omega); go_upto_region 7 with (go_at_call 37; refine (HDI.out _ hLv).mono ?_; rintro e w1 ⟨b, rfl, q⟩; have T0 := Lib.hid q; clear q); clear f1 f2))
  all_goals clear HDI z1 z2
  all_goals (
    have HB1 : Hid (∀ ks w1, EKt b w ks σ3 w1 → Calls Tryz.prog 35 #[.pointer (some ⟨b, 0, none⟩), .int .i64 1, .int .i64 cc] w1 (EV b w ks σ5 (.tuple #[.int .i64 (i5 : Int), .int .i64 0]))) := fun ks w1 h => by
      rw [← hcc]
      exact begin_kt (s := 1) h (by decide) h5
    have HD1 : Hid (∀ ks w1, EKt b w ks σ5 w1 → Calls Tryz.prog 31 #[.pointer (some ⟨b, 0, none⟩), .int .i64 1, .agg #[.int .i64 1, .int .i64 3, .int .i64 0, .int .i64 0]] w1 (fun e w' => ∃ va vc, e = .returned (.tuple #[.agg #[.int .i64 0, .int .i64 20, .slice va 0 vc, .int .i64 0, .int .i64 0], .int .i64 0]) ∧ EKt b w (.row 2 (.slice va 0 vc) (pairCs []) :: ks) σ4 w')) := fun ks w1 h => by
      refine (do_kt (s := 1) h (o := ⟨1, 3, 0, 0⟩) (by decide) h6 (by decide : (1000 : Nat) ≤ _) h7).mono ?_
      rintro e w' ⟨va, vn, vc, rfl, hvn, q⟩
      subst hvn
      exact ⟨va, vc, rfl, q⟩
    have HD2 := Lib.hid (wait_kt (b := b) (w0 := w) e1 e2)
    have HSB := Lib.hid (sb_kt (b := b) (w0 := w) e3)
    have E4 := Lib.hid e4
    have E5 := Lib.hid e5
    have E6 := Lib.hid e6
    obtain ⟨p1, p2, ps, p3, p4⟩ := e8
    have HPS := Lib.hid (ps_two (b := b) (w0 := w) e7 p3 p4)
    have P1 : (r11.over : Int) = 4 := by rw [p1]; rfl
    have P2 : (r11.reason : Int) = 4 := by rw [p2]; rfl
    clear h5 h6 h7 e1 e2 e3 e4 e5 e6 e7 p1 p2 p3 p4 hL1
    go_upto_region 18 with (go_at_call 35; refine (HB1.out _ _ (T0.out)).mono ?_; rintro e w2 ⟨rfl, q⟩; have T1 := Lib.hid q; clear q T0)
    go_upto_region 25 with (first | (go_at_call 31; refine (HD1.out _ _ (((T1.out.allocg (w2.heap.size) rfl _).allocg (w2.heap.size + 1) (by simp) _).allocg (w2.heap.size + 1 + 1) (by simp) _)).mono ?_; rintro e w3 ⟨va, vc, rfl, q⟩; have hw := q.obj (k := w2.heap.size + 1 + 1) (o := Obj.cells #[.int .i64 0, .int .i64 20, .slice none 0 0, .int .i64 0, .int .i64 0] 42) (List.mem_cons_of_mem _ (List.mem_cons_self ..)); obtain ⟨c0, c1, c2, c3, c4⟩ := cells5 hw (Obj.cells #[.int .i64 0, .int .i64 20, .slice va 0 vc, .int .i64 0, .int .i64 0] 42); clear hw; have T2 := Lib.hid q; clear q T1) | (go_at_call 38; refine (same_result _ _ _ _ _ _ _ _ _ [] _ (Row.alloc' (T2.out.row (List.mem_cons_self ..)) _) (Row.alloc' (row_nil _ _) _)).mono ?_; rintro e w4 ⟨rfl, q⟩; have T3 := Lib.hid ((T2.out.alloc _).below q); clear q T2) | (go_at_call 31; refine (HD2.out _ _ (T3.out)).mono ?_; rintro e w5 ⟨vb, vm, vd, rfl, q⟩; have T4 := Lib.hid q; clear q T3) | (go_at_call 18; refine (HSB.out _ _ (T4.out.alloc _)).mono ?_; rintro e w6 ⟨y1, y2, y3, y4, y5, y6, y7, y8, rfl, q⟩; have hf := fld_busy (.bool true) y1 y2 y3 y4 y5 y6 y7 y8; have T5 := Lib.hid q; clear q T4))
    have T5d := Lib.hid T5.out.drop
    clear T5 HD1 HD2 HSB
    go_loopw [21] (fun i wr => ∃ (j f : Nat) (σ : St), i = .int .i64 (j : Int) ∧ j + f = 10 ∧ runSome 1 f σ = some σ9 ∧ EKt b w [] σ wr) (fun i _ => 10 - (intOf i).toNat)
    case atStart => exact ⟨0, 10, σ8, rfl, rfl, E4.out, T5d.out⟩
    case round =>
      clear T5d E4
      obtain ⟨j, f, σ, rfl, hjf, hrun, T6⟩ := hrel
      have T6 := Lib.hid T6
      cases f with
      | succ f =>
        obtain ⟨σ', kd', r', hst, hk3, hnext⟩ := runSome_ok hrun
        have HSP := Lib.hid (sp_kt (b := b) (w0 := w) 1 1 rfl (by decide) hst)
        have HX := Lib.hid (And.intro hjf hnext)
        have j1 : ((j : Int) < 10) = True := by simp; omega
        have j2 : decide ((j : Int) < 10) = true := by simp; omega
        have x4 : IntKind.i64.wrap ((j : Int) + 1) = (j : Int) + 1 := by rw [IntKind.wrap_i64]; omega
        have k3 : (kd' : Int) ≠ 3 := by omega
        have k1 : ((kd' : Int) == 3) = false := by simp; omega
        have k2 : ((kd' : Int) = 3) = False := by simp; omega
        clear k3
        clear hrun hst hnext hk3
        generalize (kd' : Int) = kz at *
        go_wp2_with (go_at_call 19; refine (HSP.out _ T6.out).mono ?_; rintro e w9 ⟨ua, un, uc, rfl, q⟩; have T7 := Lib.hid q; clear q T6)
        exact ⟨⟨j + 1, f, σ', rfl, by have := HX.out.1; omega, HX.out.2, (T7.out.alloc _).drop⟩, by have := HX.out.1; simp [intOf]; omega⟩
      | zero =>
        obtain rfl : σ = σ9 := Option.some.inj hrun
        have j1 : ((j : Int) < 10) = False := by simp; omega
        have j2 : decide ((j : Int) < 10) = false := by simp; omega
        clear hrun hjf
        go_upto_region 31 with fail
        go_loopw [24] (fun i wr => ∃ (j f : Nat) (σ : St) (kd : Nat) (r : Res), i = .int .i64 (j : Int) ∧ j + f = 1000 ∧ runLast 0 f σ kd r = some (σ10, k10, r10) ∧ EKt b w [] σ wr) (fun i _ => 1000 - (intOf i).toNat)
        case atStart => exact ⟨0, 1000, _, 0, {}, rfl, rfl, E5.out, T6.out⟩
        case round =>
          clear T6 E5 j1 j2
          obtain ⟨i, f, τ, kd, r, rfl, hjf, hrun, T6⟩ := hrel
          cases f with
          | zero => cases hrun
          | succ f =>
          rcases runLast_ok hrun with ⟨hl, q1, _, _⟩ | ⟨hl, σ', kd', r', hst, hnext⟩
          · rw [q1] at hl T6
            have HST := Lib.hid (st_kt (b := b) (w0 := w) 0 0 rfl (by decide) hl)
            have T6 := Lib.hid T6
            clear hrun hl q1 hjf
            go_upto_region 38 with (go_at_call 18; refine (HST.out _ T6.out).mono ?_; rintro e wx ⟨y1, y2, y3, y4, y5, y6, y7, y8, rfl, q⟩; have hf := fld_live (.bool false) y1 y2 y3 y4 y5 y6 y7 y8; have T7 := Lib.hid q; clear q T6)
            have T8 := Lib.hid (T7.out.tm (.cells #[.int .i64 0, .int .i64 0, .int .i64 0, .slice none 0 0, .int .i64 0, .int .i64 0] 44))
            clear T7
            go_loopw [28] (fun i wr => ∃ (j f : Nat) (σ : St) (kd : Nat) (r : Res) (va : Option Addr) (vn vc : Nat), i = .int .i64 (j : Int) ∧ j + f = 1000 ∧ runLast 1 f σ kd r = some (σ11, k11, r11) ∧ ETm b w wx.heap.size (did kd r va vn vc) σ wr) (fun i _ => 1000 - (intOf i).toNat)
            case atStart => exact ⟨0, 1000, _, 0, {}, none, 0, 0, rfl, rfl, E6.out, T8.out⟩
            case round =>
              clear T8 E6
              obtain ⟨i, f, υ, kd, r, va, vn, vc, rfl, hjf, hrun, T9⟩ := hrel
              generalize hgd : wx.heap.size = gd at *
              have i1 : ((i : Int) < 20000) = True := by
                cases f with
                | zero => cases hrun
                | succ f => simp; omega
              have i2 : decide ((i : Int) < 20000) = true := by simpa using i1
              cases f with
              | zero => cases hrun
              | succ f =>
              rcases runLast_ok hrun with ⟨hl, q1, _, q3⟩ | ⟨hl, σ', kd', r', hst, hnext⟩
              · rw [q3, q1] at T9
                rw [q1] at hl
                have HST := Lib.hid (st_tm (b := b) (w0 := w) (g := gd) (o := did kd r11 va vn vc) 1 1 rfl (by decide) hl)
                have T9 := Lib.hid T9
                clear hrun hl q1 q3 hjf hgd
                go_wp2_with (first | (go_at_call 18; refine (HST.out _ T9.out).mono ?_; rintro e w9 ⟨y1, y2, y3, y4, y5, y6, y7, y8, rfl, q⟩; have hf := fld_live (.bool false) y1 y2 y3 y4 y5 y6 y7 y8; have T10 := Lib.hid q; clear q T9) | (go_at_call 29; refine (HPS.out _ _ _ T10.out).mono ?_; rintro e w10 ⟨rg, ro, rc, rfl, s1, s2, q⟩; have d4 : w10.cell? ⟨gd, 4, none⟩ = some (.int .i64 4) := (by have ho := q.obj; simp only [did, didL] at ho; simp [World.cell?, ho, P1]); have d5 : w10.cell? ⟨gd, 5, none⟩ = some (.int .i64 4) := (by have ho := q.obj; simp only [did, didL] at ho; simp [World.cell?, ho, P2]); have hq := run_eqQ; have T11 := Lib.hid q; clear q T10) | (go_at_call 22; refine (HAW.out _).mono ?_; rintro e w12 ⟨rfl, q⟩; have HB12 := Lib.hid q; clear q))
                go_ret
                exact ⟨rfl, (T11.out.below HB12.out).at.toBelow⟩
              · have HST := Lib.hid (st_tm (b := b) (w0 := w) (g := gd) (o := did kd r va vn vc) 1 1 rfl (by decide) hl)
                have HSP := Lib.hid (sp_tm (b := b) (w0 := w) (g := gd) (o := did kd r va vn vc) 1 1 rfl (by decide) hst)
                have T9 := Lib.hid T9
                have HX := Lib.hid (And.intro hjf hnext)
                have x4 : IntKind.i64.wrap ((i : Int) + 1) = (i : Int) + 1 := by rw [IntKind.wrap_i64]; omega
                clear hrun hl hst hnext hjf
                go_wp2_with (first | (go_at_call 18; refine (HST.out _ T9.out).mono ?_; rintro e w9 ⟨y1, y2, y3, y4, y5, y6, y7, y8, rfl, q⟩; have hf := fld_live (.bool true) y1 y2 y3 y4 y5 y6 y7 y8; have T10 := Lib.hid q; clear q T9) | (go_at_call 19; refine (HSP.out _ T10.out).mono ?_; rintro e w10 ⟨ua, un, uc, rfl, q⟩; have hp := did_put q kd' r' ua un uc; have HP := Lib.hid hp; clear hp; clear q T10) | (refine wpList_store_mid rfl 44 (.tmp 27) (.tmp 163) rfl gd 0 #[.int .i64 (kd' : Int), .int .i64 (r'.e : Int), .int .i64 (r'.value : Int), .slice ua un uc, .int .i64 (r'.over : Int), .int .i64 (r'.reason : Int)] rfl rfl HP.out.1 (by kernel_rfl) (by simp [Value.oneCell']) ?_; generalize hws : World.setCells _ _ _ _ = ws))
                subst hws
                exact ⟨⟨i + 1, f, σ', kd', r', ua, un, uc, rfl, by have := HX.out.1; omega, HX.out.2, HP.out.2⟩, by have := HX.out.1; simp [intOf]; omega⟩
          · have HST := Lib.hid (st_kt (b := b) (w0 := w) 0 0 rfl (by decide) hl)
            have HSP := Lib.hid (sp_kt (b := b) (w0 := w) 0 0 rfl (by decide) hst)
            have T6 := Lib.hid T6
            have HX := Lib.hid (And.intro hjf hnext)
            have i1 : ((i : Int) < 20000) = True := by simp; omega
            have i2 : decide ((i : Int) < 20000) = true := by simp; omega
            have x4 : IntKind.i64.wrap ((i : Int) + 1) = (i : Int) + 1 := by rw [IntKind.wrap_i64]; omega
            clear hrun hl hst hnext hjf
            go_wp2_with (first | (go_at_call 18; refine (HST.out _ T6.out).mono ?_; rintro e w9 ⟨y1, y2, y3, y4, y5, y6, y7, y8, rfl, q⟩; have hf := fld_live (.bool true) y1 y2 y3 y4 y5 y6 y7 y8; have T7 := Lib.hid q; clear q T6) | (go_at_call 19; refine (HSP.out _ T7.out).mono ?_; rintro e w10 ⟨ua, un, uc, rfl, q⟩; have T8 := Lib.hid q; clear q T7))
            exact ⟨⟨i + 1, f, σ', kd', r', rfl, by have := HX.out.1; omega, HX.out.2, (T8.out.alloc _).drop⟩, by have := HX.out.1; simp [intOf]; omega⟩)
end Go.Proofs.YtdgombgcjeelpaaGreat.Em

namespace Go.Proofs.YtdgombgcjeelpaaGreat.Em
open Go.ChangeShapes Go.WideShapes Go.ChangeAt Go.RowKit En
set_option linter.unusedVariables false
set_option linter.unusedSimpArgs false
set_option maxRecDepth 100000
set_option maxHeartbeats 1600000

theorem bond_law010 (how' level' reader' : Int) (w : World) (hw0 : (bits .and .i64 how' 255).tmod 3 = 0) : Calls Tryz.prog 9 #[.int .i64 how', .int .i64 level', .int .i64 reader', .bool true, .bool false] w fun e w' => e = .returned (.bool true) ∧ Below w.heap.size w w' := by
  have hws := hw0
  obtain ⟨a, ha, has⟩ := mask_to level' 3 (by decide)
  obtain ⟨c, hc, hcs⟩ := mask_to reader' 3 (by decide)
  rw [show ((3 : Nat) : Int) = 3 from rfl] at has hcs
  obtain ⟨L, hL1, hLv⟩ : ∃ L : Nat, (1 ≤ L ∧ L ≤ 3) ∧ (L : Int) = (a : Int) + 1 := ⟨a + 1, by omega, rfl⟩
  have hall := bond_all 0 L (c + 1) true false (by omega) hL1.1 hL1.2 (by omega) (by omega) (fun h => by cases h)
  obtain ⟨σ1, σ2, σ3, σ4, h1, h2, h3, h4, hend⟩ := bondRun_ok hall
  obtain ⟨σ5, i5, σ6, h5, h6, h7⟩ := bondRead_ok h4
  obtain ⟨σ7, σ8, r8, σ9, σ10, k10, r10, σ11, k11, r11, e1, e2, e3, e4, e5, e6, e7, e8⟩ := bondEnd_ok hend
  clear hall hend h4
  have n1 : IntKind.i64.wrap ((a : Int) + 1) = (a : Int) + 1 := by rw [IntKind.wrap_i64]; omega
  have n2 : IntKind.i64.wrap ((c : Int) + 1) = (c : Int) + 1 := by rw [IntKind.wrap_i64]; omega
  rw [show readOf 0 true = ⟨5, 3, 4, 0⟩ from rfl] at h6
  have HDI : Hid (∀ lv : Int, (L : Int) = lv → Calls Tryz.prog 37 #[.int .i64 0, .int .i64 lv, .bool false] w fun e w' => ∃ b, e = .returned (.pointer (some ⟨b, 0, none⟩)) ∧ EKt b w [] σ3 w') := fun lv hlv => dir_00 L lv hlv w σ1 σ2 σ3 h1 h2 h3
  have HAW := Lib.hid awake24
  clear h1 h2 h3
  go_enter Tryz.func9, Tryz.ntmps9
  go_upto_region 2 with fail
  generalize hcc : (c : Int) + 1 = cc at *
  generalize haa : (a : Int) + 1 = aa at *
  clear hws hw0 has hcs n1 n2
  go_upto_region 7 with (go_at_call 37; refine (HDI.out _ hLv).mono ?_; rintro e w1 ⟨b, rfl, q⟩; have T0 := Lib.hid q; clear q)
  clear HDI
  have HB1 : Hid (∀ ks w1, EKt b w ks σ3 w1 → Calls Tryz.prog 35 #[.pointer (some ⟨b, 0, none⟩), .int .i64 1, .int .i64 cc] w1 (EV b w ks σ5 (.tuple #[.int .i64 (i5 : Int), .int .i64 0]))) := fun ks w1 h => by
    rw [← hcc]
    exact begin_kt (s := 1) h (by decide) h5
  have HD1 : Hid (∀ ks w1, EKt b w ks σ5 w1 → Calls Tryz.prog 31 #[.pointer (some ⟨b, 0, none⟩), .int .i64 1, .agg #[.int .i64 5, .int .i64 3, .int .i64 4, .int .i64 0]] w1 (fun e w' => ∃ va vc, e = .returned (.tuple #[.agg #[.int .i64 0, .int .i64 0, .slice va 1 vc, .int .i64 0, .int .i64 0], .int .i64 0]) ∧ EKt b w (.row 2 (.slice va 1 vc) (pairCs [(3, 20)]) :: ks) σ4 w')) := fun ks w1 h => by
    refine (do_kt (s := 1) h (o := ⟨5, 3, 4, 0⟩) (by decide) h6 (by decide : (1000 : Nat) ≤ _) h7).mono ?_
    rintro e w' ⟨va, vn, vc, rfl, hvn, q⟩
    subst hvn
    exact ⟨va, vc, rfl, q⟩
  have HD2 := Lib.hid (wait_kt (b := b) (w0 := w) e1 e2)
  have HSB := Lib.hid (sb_kt (b := b) (w0 := w) e3)
  have E4 := Lib.hid e4
  have E5 := Lib.hid e5
  have E6 := Lib.hid e6
  replace e8 : r11.over = 3 ∧ σ11.pairs.length = 2 := e8
  obtain ⟨p1, p2⟩ := e8
  have HPS := Lib.hid (ps_len (b := b) (w0 := w) 2 e7 p2)
  have P1 : (r11.over : Int) = 3 := by rw [p1]; rfl
  clear h5 h6 h7 e1 e2 e3 e4 e5 e6 e7 p1 p2 hL1
  go_upto_region 18 with (go_at_call 35; refine (HB1.out _ _ (T0.out)).mono ?_; rintro e w2 ⟨rfl, q⟩; have T1 := Lib.hid q; clear q T0)
  go_upto_region 25 with (first | (go_at_call 31; refine (HD1.out _ _ ((((((T1.out.allocg (w2.heap.size) rfl _).allocg (w2.heap.size + 1) (by simp) _).allocg (w2.heap.size + 1 + 1) (by simp) _).allocg (w2.heap.size + 1 + 1 + 1) (by simp) _).allocg (w2.heap.size + 1 + 1 + 1 + 1) (by simp) _).allocg (w2.heap.size + 1 + 1 + 1 + 1 + 1) (by simp) _)).mono ?_; rintro e w3 ⟨va, vc, rfl, q⟩; have hw := q.obj (k := w2.heap.size + 1 + 1) (o := Obj.cells #[.int .i64 0, .int .i64 0, .slice (some ⟨w2.heap.size + 1 + 1 + 1, 0, none⟩) 1 1, .int .i64 0, .int .i64 0] 42) (List.mem_cons_of_mem _ (List.mem_cons_of_mem _ (List.mem_cons_of_mem _ (List.mem_cons_of_mem _ (List.mem_cons_self ..))))); obtain ⟨c0, c1, c2, c3, c4⟩ := cells5 hw (Obj.cells #[.int .i64 0, .int .i64 0, .slice va 1 vc, .int .i64 0, .int .i64 0] 42); clear hw; have T2 := Lib.hid q; clear q T1) | (go_at_call 38; refine (same_result _ _ _ _ _ _ _ _ _ [(3, 20)] _ (Row.alloc' (T2.out.row (List.mem_cons_self ..)) _) (Row.alloc' (row_of_obj (pairCs [(3, 20)]) 1 2 (T2.out.obj (k := w2.heap.size + 1 + 1 + 1) (o := .cells #[.int .i64 3, .int .i64 20] 80) (List.mem_cons_of_mem _ (List.mem_cons_of_mem _ (List.mem_cons_of_mem _ (List.mem_cons_self ..))))) rfl (by decide)) _)).mono ?_; rintro e w4 ⟨rfl, q⟩; have T3 := Lib.hid ((T2.out.alloc _).below q); clear q T2) | (go_at_call 31; refine (HD2.out _ _ (T3.out)).mono ?_; rintro e w5 ⟨vb, vm, vd, rfl, q⟩; have T4 := Lib.hid q; clear q T3) | (go_at_call 18; refine (HSB.out _ _ (T4.out.alloc _)).mono ?_; rintro e w6 ⟨y1, y2, y3, y4, y5, y6, y7, y8, rfl, q⟩; have hf := fld_busy (.bool true) y1 y2 y3 y4 y5 y6 y7 y8; have T5 := Lib.hid q; clear q T4))
  have T5d := Lib.hid T5.out.drop
  clear T5 HD1 HD2 HSB
  go_loopw [21] (fun i wr => ∃ (j f : Nat) (σ : St), i = .int .i64 (j : Int) ∧ j + f = 10 ∧ runSome 1 f σ = some σ9 ∧ EKt b w [] σ wr) (fun i _ => 10 - (intOf i).toNat)
  case atStart => exact ⟨0, 10, σ8, rfl, rfl, E4.out, T5d.out⟩
  case round =>
    clear T5d E4
    obtain ⟨j, f, σ, rfl, hjf, hrun, T6⟩ := hrel
    have T6 := Lib.hid T6
    cases f with
    | succ f =>
      obtain ⟨σ', kd', r', hst, hk3, hnext⟩ := runSome_ok hrun
      have HSP := Lib.hid (sp_kt (b := b) (w0 := w) 1 1 rfl (by decide) hst)
      have HX := Lib.hid (And.intro hjf hnext)
      have j1 : ((j : Int) < 10) = True := by simp; omega
      have j2 : decide ((j : Int) < 10) = true := by simp; omega
      have x4 : IntKind.i64.wrap ((j : Int) + 1) = (j : Int) + 1 := by rw [IntKind.wrap_i64]; omega
      have k3 : (kd' : Int) ≠ 3 := by omega
      have k1 : ((kd' : Int) == 3) = false := by simp; omega
      have k2 : ((kd' : Int) = 3) = False := by simp; omega
      clear k3
      clear hrun hst hnext hk3
      generalize (kd' : Int) = kz at *
      go_wp2_with (go_at_call 19; refine (HSP.out _ T6.out).mono ?_; rintro e w9 ⟨ua, un, uc, rfl, q⟩; have T7 := Lib.hid q; clear q T6)
      exact ⟨⟨j + 1, f, σ', rfl, by have := HX.out.1; omega, HX.out.2, (T7.out.alloc _).drop⟩, by have := HX.out.1; simp [intOf]; omega⟩
    | zero =>
      obtain rfl : σ = σ9 := Option.some.inj hrun
      have j1 : ((j : Int) < 10) = False := by simp; omega
      have j2 : decide ((j : Int) < 10) = false := by simp; omega
      clear hrun hjf
      go_upto_region 31 with fail
      go_loopw [24] (fun i wr => ∃ (j f : Nat) (σ : St) (kd : Nat) (r : Res), i = .int .i64 (j : Int) ∧ j + f = 1000 ∧ runLast 0 f σ kd r = some (σ10, k10, r10) ∧ EKt b w [] σ wr) (fun i _ => 1000 - (intOf i).toNat)
      case atStart => exact ⟨0, 1000, _, 0, {}, rfl, rfl, E5.out, T6.out⟩
      case round =>
        clear T6 E5 j1 j2
        obtain ⟨i, f, τ, kd, r, rfl, hjf, hrun, T6⟩ := hrel
        cases f with
        | zero => cases hrun
        | succ f =>
        rcases runLast_ok hrun with ⟨hl, q1, _, _⟩ | ⟨hl, σ', kd', r', hst, hnext⟩
        · rw [q1] at hl T6
          have HST := Lib.hid (st_kt (b := b) (w0 := w) 0 0 rfl (by decide) hl)
          have T6 := Lib.hid T6
          clear hrun hl q1 hjf
          go_upto_region 38 with (go_at_call 18; refine (HST.out _ T6.out).mono ?_; rintro e wx ⟨y1, y2, y3, y4, y5, y6, y7, y8, rfl, q⟩; have hf := fld_live (.bool false) y1 y2 y3 y4 y5 y6 y7 y8; have T7 := Lib.hid q; clear q T6)
          have T8 := Lib.hid (T7.out.tm (.cells #[.int .i64 0, .int .i64 0, .int .i64 0, .slice none 0 0, .int .i64 0, .int .i64 0] 44))
          clear T7
          go_loopw [28] (fun i wr => ∃ (j f : Nat) (σ : St) (kd : Nat) (r : Res) (va : Option Addr) (vn vc : Nat), i = .int .i64 (j : Int) ∧ j + f = 1000 ∧ runLast 1 f σ kd r = some (σ11, k11, r11) ∧ ETm b w wx.heap.size (did kd r va vn vc) σ wr) (fun i _ => 1000 - (intOf i).toNat)
          case atStart => exact ⟨0, 1000, _, 0, {}, none, 0, 0, rfl, rfl, E6.out, T8.out⟩
          case round =>
            clear T8 E6
            obtain ⟨i, f, υ, kd, r, va, vn, vc, rfl, hjf, hrun, T9⟩ := hrel
            generalize hgd : wx.heap.size = gd at *
            have i1 : ((i : Int) < 20000) = True := by
              cases f with
              | zero => cases hrun
              | succ f => simp; omega
            have i2 : decide ((i : Int) < 20000) = true := by simpa using i1
            cases f with
            | zero => cases hrun
            | succ f =>
            rcases runLast_ok hrun with ⟨hl, q1, _, q3⟩ | ⟨hl, σ', kd', r', hst, hnext⟩
            · rw [q3, q1] at T9
              rw [q1] at hl
              have HST := Lib.hid (st_tm (b := b) (w0 := w) (g := gd) (o := did kd r11 va vn vc) 1 1 rfl (by decide) hl)
              have T9 := Lib.hid T9
              clear hrun hl q1 q3 hjf hgd
              go_wp2_with (first | (go_at_call 18; refine (HST.out _ T9.out).mono ?_; rintro e w9 ⟨y1, y2, y3, y4, y5, y6, y7, y8, rfl, q⟩; have hf := fld_live (.bool false) y1 y2 y3 y4 y5 y6 y7 y8; have T10 := Lib.hid q; clear q T9) | (go_at_call 29; refine (HPS.out _ _ _ T10.out).mono ?_; rintro e w10 ⟨av, rc, rfl, q⟩; have d4 : w10.cell? ⟨gd, 4, none⟩ = some (.int .i64 3) := (by have ho := q.obj; simp only [did, didL] at ho; simp [World.cell?, ho, P1]); have T11 := Lib.hid q; clear q T10) | (go_at_call 22; refine (HAW.out _).mono ?_; rintro e w12 ⟨rfl, q⟩; have HB12 := Lib.hid q; clear q))
              go_ret
              exact ⟨rfl, ((T11.out.alloc _).below HB12.out).at.toBelow⟩
            · have HST := Lib.hid (st_tm (b := b) (w0 := w) (g := gd) (o := did kd r va vn vc) 1 1 rfl (by decide) hl)
              have HSP := Lib.hid (sp_tm (b := b) (w0 := w) (g := gd) (o := did kd r va vn vc) 1 1 rfl (by decide) hst)
              have T9 := Lib.hid T9
              have HX := Lib.hid (And.intro hjf hnext)
              have x4 : IntKind.i64.wrap ((i : Int) + 1) = (i : Int) + 1 := by rw [IntKind.wrap_i64]; omega
              clear hrun hl hst hnext hjf
              go_wp2_with (first | (go_at_call 18; refine (HST.out _ T9.out).mono ?_; rintro e w9 ⟨y1, y2, y3, y4, y5, y6, y7, y8, rfl, q⟩; have hf := fld_live (.bool true) y1 y2 y3 y4 y5 y6 y7 y8; have T10 := Lib.hid q; clear q T9) | (go_at_call 19; refine (HSP.out _ T10.out).mono ?_; rintro e w10 ⟨ua, un, uc, rfl, q⟩; have hp := did_put q kd' r' ua un uc; have HP := Lib.hid hp; clear hp; clear q T10) | (refine wpList_store_mid rfl 44 (.tmp 27) (.tmp 163) rfl gd 0 #[.int .i64 (kd' : Int), .int .i64 (r'.e : Int), .int .i64 (r'.value : Int), .slice ua un uc, .int .i64 (r'.over : Int), .int .i64 (r'.reason : Int)] rfl rfl HP.out.1 (by kernel_rfl) (by simp [Value.oneCell']) ?_; generalize hws : World.setCells _ _ _ _ = ws))
              subst hws
              exact ⟨⟨i + 1, f, σ', kd', r', ua, un, uc, rfl, by have := HX.out.1; omega, HX.out.2, HP.out.2⟩, by have := HX.out.1; simp [intOf]; omega⟩
        · have HST := Lib.hid (st_kt (b := b) (w0 := w) 0 0 rfl (by decide) hl)
          have HSP := Lib.hid (sp_kt (b := b) (w0 := w) 0 0 rfl (by decide) hst)
          have T6 := Lib.hid T6
          have HX := Lib.hid (And.intro hjf hnext)
          have i1 : ((i : Int) < 20000) = True := by simp; omega
          have i2 : decide ((i : Int) < 20000) = true := by simp; omega
          have x4 : IntKind.i64.wrap ((i : Int) + 1) = (i : Int) + 1 := by rw [IntKind.wrap_i64]; omega
          clear hrun hl hst hnext hjf
          go_wp2_with (first | (go_at_call 18; refine (HST.out _ T6.out).mono ?_; rintro e w9 ⟨y1, y2, y3, y4, y5, y6, y7, y8, rfl, q⟩; have hf := fld_live (.bool true) y1 y2 y3 y4 y5 y6 y7 y8; have T7 := Lib.hid q; clear q T6) | (go_at_call 19; refine (HSP.out _ T7.out).mono ?_; rintro e w10 ⟨ua, un, uc, rfl, q⟩; have T8 := Lib.hid q; clear q T7))
          exact ⟨⟨i + 1, f, σ', kd', r', rfl, by have := HX.out.1; omega, HX.out.2, (T8.out.alloc _).drop⟩, by have := HX.out.1; simp [intOf]; omega⟩
end Go.Proofs.YtdgombgcjeelpaaGreat.Em

namespace Go.Proofs.YtdgombgcjeelpaaGreat.Em
open Go.ChangeShapes Go.WideShapes Go.ChangeAt Go.RowKit En
set_option linter.unusedVariables false
set_option linter.unusedSimpArgs false
set_option maxRecDepth 100000
set_option maxHeartbeats 1600000

theorem bond_law011 (how' level' reader' : Int) (w : World) (hw0 : (bits .and .i64 how' 255).tmod 3 = 0) : Calls Tryz.prog 9 #[.int .i64 how', .int .i64 level', .int .i64 reader', .bool true, .bool true] w fun e w' => e = .returned (.bool true) ∧ Below w.heap.size w w' := by
  have hws := hw0
  obtain ⟨a, ha, has⟩ := mask_to level' 3 (by decide)
  obtain ⟨c, hc, hcs⟩ := mask_to reader' 3 (by decide)
  rw [show ((3 : Nat) : Int) = 3 from rfl] at has hcs
  obtain ⟨L, lv, hL1, hLv, hb1, hcase⟩ : ∃ (L : Nat) (lv : Int), (1 ≤ L ∧ L ≤ 3) ∧ (L : Int) = lv ∧ L ≠ 1 ∧ (((a : Int) + 1 = 1 ∧ lv = 3) ∨ ((a : Int) + 1 ≠ 1 ∧ lv = (a : Int) + 1)) := by
    by_cases ha0 : a = 0
    · exact ⟨3, 3, by omega, rfl, by omega, .inl ⟨by omega, rfl⟩⟩
    · exact ⟨a + 1, (a : Int) + 1, by omega, rfl, by omega, .inr ⟨by omega, rfl⟩⟩
  have hall := bond_all 0 L (c + 1) true true (by omega) hL1.1 hL1.2 (by omega) (by omega) (fun _ => hb1)
  obtain ⟨σ1, σ2, σ3, σ4, h1, h2, h3, h4, hend⟩ := bondRun_ok hall
  obtain ⟨σ5, i5, σ6, h5, h6, h7⟩ := bondRead_ok h4
  obtain ⟨σ7, σ8, r8, σ9, σ10, k10, r10, σ11, k11, r11, e1, e2, e3, e4, e5, e6, e7, e8⟩ := bondEnd_ok hend
  clear hall hend h4
  rw [if_pos rfl] at e8
  have n1 : IntKind.i64.wrap ((a : Int) + 1) = (a : Int) + 1 := by rw [IntKind.wrap_i64]; omega
  have n2 : IntKind.i64.wrap ((c : Int) + 1) = (c : Int) + 1 := by rw [IntKind.wrap_i64]; omega
  rw [show readOf 0 true = ⟨5, 3, 4, 0⟩ from rfl] at h6
  have HDI : Hid (∀ lv : Int, (L : Int) = lv → Calls Tryz.prog 37 #[.int .i64 0, .int .i64 lv, .bool true] w fun e w' => ∃ b, e = .returned (.pointer (some ⟨b, 0, none⟩)) ∧ EKt b w [] σ3 w') := fun lv hlv => dir_01 L lv hlv w σ1 σ2 σ3 h1 h2 h3
  have HAW := Lib.hid awake24
  clear h1 h2 h3
  go_enter Tryz.func9, Tryz.ntmps9
  go_upto_region 2 with fail
  generalize hcc : (c : Int) + 1 = cc at *
  generalize haa : (a : Int) + 1 = aa at *
  clear hws hw0 has hcs n1 n2
  rcases hcase with ⟨z1, z2⟩ | ⟨z1, z2⟩
  all_goals rw [z2] at hLv
  all_goals (first | (have f1 : (aa = 1) = True := (by simp; omega); have f2 : (aa == 1) = true := (by simp; omega); go_upto_region 7 with (go_at_call 37; refine (HDI.out _ hLv).mono ?_; rintro e w1 ⟨b, rfl, q⟩; have T0 := Lib.hid q; clear q); clear f1 f2) | (have f1 : (aa = 1) = False := (by simp; omega); have f2 : (aa == 1) = false := (by simp; omega); go_upto_region 7 with (go_at_call 37; refine (HDI.out _ hLv).mono ?_; rintro e w1 ⟨b, rfl, q⟩; have T0 := Lib.hid q; clear q); clear f1 f2))
  all_goals clear HDI z1 z2
  all_goals (
    have HB1 : Hid (∀ ks w1, EKt b w ks σ3 w1 → Calls Tryz.prog 35 #[.pointer (some ⟨b, 0, none⟩), .int .i64 1, .int .i64 cc] w1 (EV b w ks σ5 (.tuple #[.int .i64 (i5 : Int), .int .i64 0]))) := fun ks w1 h => by
      rw [← hcc]
      exact begin_kt (s := 1) h (by decide) h5
    have HD1 : Hid (∀ ks w1, EKt b w ks σ5 w1 → Calls Tryz.prog 31 #[.pointer (some ⟨b, 0, none⟩), .int .i64 1, .agg #[.int .i64 5, .int .i64 3, .int .i64 4, .int .i64 0]] w1 (fun e w' => ∃ va vc, e = .returned (.tuple #[.agg #[.int .i64 0, .int .i64 0, .slice va 1 vc, .int .i64 0, .int .i64 0], .int .i64 0]) ∧ EKt b w (.row 2 (.slice va 1 vc) (pairCs [(3, 20)]) :: ks) σ4 w')) := fun ks w1 h => by
      refine (do_kt (s := 1) h (o := ⟨5, 3, 4, 0⟩) (by decide) h6 (by decide : (1000 : Nat) ≤ _) h7).mono ?_
      rintro e w' ⟨va, vn, vc, rfl, hvn, q⟩
      subst hvn
      exact ⟨va, vc, rfl, q⟩
    have HD2 := Lib.hid (wait_kt (b := b) (w0 := w) e1 e2)
    have HSB := Lib.hid (sb_kt (b := b) (w0 := w) e3)
    have E4 := Lib.hid e4
    have E5 := Lib.hid e5
    have E6 := Lib.hid e6
    obtain ⟨p1, p2, ps, p3, p4⟩ := e8
    have HPS := Lib.hid (ps_two (b := b) (w0 := w) e7 p3 p4)
    have P1 : (r11.over : Int) = 4 := by rw [p1]; rfl
    have P2 : (r11.reason : Int) = 4 := by rw [p2]; rfl
    clear h5 h6 h7 e1 e2 e3 e4 e5 e6 e7 p1 p2 p3 p4 hL1
    go_upto_region 18 with (go_at_call 35; refine (HB1.out _ _ (T0.out)).mono ?_; rintro e w2 ⟨rfl, q⟩; have T1 := Lib.hid q; clear q T0)
    go_upto_region 25 with (first | (go_at_call 31; refine (HD1.out _ _ ((((((T1.out.allocg (w2.heap.size) rfl _).allocg (w2.heap.size + 1) (by simp) _).allocg (w2.heap.size + 1 + 1) (by simp) _).allocg (w2.heap.size + 1 + 1 + 1) (by simp) _).allocg (w2.heap.size + 1 + 1 + 1 + 1) (by simp) _).allocg (w2.heap.size + 1 + 1 + 1 + 1 + 1) (by simp) _)).mono ?_; rintro e w3 ⟨va, vc, rfl, q⟩; have hw := q.obj (k := w2.heap.size + 1 + 1) (o := Obj.cells #[.int .i64 0, .int .i64 0, .slice (some ⟨w2.heap.size + 1 + 1 + 1, 0, none⟩) 1 1, .int .i64 0, .int .i64 0] 42) (List.mem_cons_of_mem _ (List.mem_cons_of_mem _ (List.mem_cons_of_mem _ (List.mem_cons_of_mem _ (List.mem_cons_self ..))))); obtain ⟨c0, c1, c2, c3, c4⟩ := cells5 hw (Obj.cells #[.int .i64 0, .int .i64 0, .slice va 1 vc, .int .i64 0, .int .i64 0] 42); clear hw; have T2 := Lib.hid q; clear q T1) | (go_at_call 38; refine (same_result _ _ _ _ _ _ _ _ _ [(3, 20)] _ (Row.alloc' (T2.out.row (List.mem_cons_self ..)) _) (Row.alloc' (row_of_obj (pairCs [(3, 20)]) 1 2 (T2.out.obj (k := w2.heap.size + 1 + 1 + 1) (o := .cells #[.int .i64 3, .int .i64 20] 80) (List.mem_cons_of_mem _ (List.mem_cons_of_mem _ (List.mem_cons_of_mem _ (List.mem_cons_self ..))))) rfl (by decide)) _)).mono ?_; rintro e w4 ⟨rfl, q⟩; have T3 := Lib.hid ((T2.out.alloc _).below q); clear q T2) | (go_at_call 31; refine (HD2.out _ _ (T3.out)).mono ?_; rintro e w5 ⟨vb, vm, vd, rfl, q⟩; have T4 := Lib.hid q; clear q T3) | (go_at_call 18; refine (HSB.out _ _ (T4.out.alloc _)).mono ?_; rintro e w6 ⟨y1, y2, y3, y4, y5, y6, y7, y8, rfl, q⟩; have hf := fld_busy (.bool true) y1 y2 y3 y4 y5 y6 y7 y8; have T5 := Lib.hid q; clear q T4))
    have T5d := Lib.hid T5.out.drop
    clear T5 HD1 HD2 HSB
    go_loopw [21] (fun i wr => ∃ (j f : Nat) (σ : St), i = .int .i64 (j : Int) ∧ j + f = 10 ∧ runSome 1 f σ = some σ9 ∧ EKt b w [] σ wr) (fun i _ => 10 - (intOf i).toNat)
    case atStart => exact ⟨0, 10, σ8, rfl, rfl, E4.out, T5d.out⟩
    case round =>
      clear T5d E4
      obtain ⟨j, f, σ, rfl, hjf, hrun, T6⟩ := hrel
      have T6 := Lib.hid T6
      cases f with
      | succ f =>
        obtain ⟨σ', kd', r', hst, hk3, hnext⟩ := runSome_ok hrun
        have HSP := Lib.hid (sp_kt (b := b) (w0 := w) 1 1 rfl (by decide) hst)
        have HX := Lib.hid (And.intro hjf hnext)
        have j1 : ((j : Int) < 10) = True := by simp; omega
        have j2 : decide ((j : Int) < 10) = true := by simp; omega
        have x4 : IntKind.i64.wrap ((j : Int) + 1) = (j : Int) + 1 := by rw [IntKind.wrap_i64]; omega
        have k3 : (kd' : Int) ≠ 3 := by omega
        have k1 : ((kd' : Int) == 3) = false := by simp; omega
        have k2 : ((kd' : Int) = 3) = False := by simp; omega
        clear k3
        clear hrun hst hnext hk3
        generalize (kd' : Int) = kz at *
        go_wp2_with (go_at_call 19; refine (HSP.out _ T6.out).mono ?_; rintro e w9 ⟨ua, un, uc, rfl, q⟩; have T7 := Lib.hid q; clear q T6)
        exact ⟨⟨j + 1, f, σ', rfl, by have := HX.out.1; omega, HX.out.2, (T7.out.alloc _).drop⟩, by have := HX.out.1; simp [intOf]; omega⟩
      | zero =>
        obtain rfl : σ = σ9 := Option.some.inj hrun
        have j1 : ((j : Int) < 10) = False := by simp; omega
        have j2 : decide ((j : Int) < 10) = false := by simp; omega
        clear hrun hjf
        go_upto_region 31 with fail
        go_loopw [24] (fun i wr => ∃ (j f : Nat) (σ : St) (kd : Nat) (r : Res), i = .int .i64 (j : Int) ∧ j + f = 1000 ∧ runLast 0 f σ kd r = some (σ10, k10, r10) ∧ EKt b w [] σ wr) (fun i _ => 1000 - (intOf i).toNat)
        case atStart => exact ⟨0, 1000, _, 0, {}, rfl, rfl, E5.out, T6.out⟩
        case round =>
          clear T6 E5 j1 j2
          obtain ⟨i, f, τ, kd, r, rfl, hjf, hrun, T6⟩ := hrel
          cases f with
          | zero => cases hrun
          | succ f =>
          rcases runLast_ok hrun with ⟨hl, q1, _, _⟩ | ⟨hl, σ', kd', r', hst, hnext⟩
          · rw [q1] at hl T6
            have HST := Lib.hid (st_kt (b := b) (w0 := w) 0 0 rfl (by decide) hl)
            have T6 := Lib.hid T6
            clear hrun hl q1 hjf
            go_upto_region 38 with (go_at_call 18; refine (HST.out _ T6.out).mono ?_; rintro e wx ⟨y1, y2, y3, y4, y5, y6, y7, y8, rfl, q⟩; have hf := fld_live (.bool false) y1 y2 y3 y4 y5 y6 y7 y8; have T7 := Lib.hid q; clear q T6)
            have T8 := Lib.hid (T7.out.tm (.cells #[.int .i64 0, .int .i64 0, .int .i64 0, .slice none 0 0, .int .i64 0, .int .i64 0] 44))
            clear T7
            go_loopw [28] (fun i wr => ∃ (j f : Nat) (σ : St) (kd : Nat) (r : Res) (va : Option Addr) (vn vc : Nat), i = .int .i64 (j : Int) ∧ j + f = 1000 ∧ runLast 1 f σ kd r = some (σ11, k11, r11) ∧ ETm b w wx.heap.size (did kd r va vn vc) σ wr) (fun i _ => 1000 - (intOf i).toNat)
            case atStart => exact ⟨0, 1000, _, 0, {}, none, 0, 0, rfl, rfl, E6.out, T8.out⟩
            case round =>
              clear T8 E6
              obtain ⟨i, f, υ, kd, r, va, vn, vc, rfl, hjf, hrun, T9⟩ := hrel
              generalize hgd : wx.heap.size = gd at *
              have i1 : ((i : Int) < 20000) = True := by
                cases f with
                | zero => cases hrun
                | succ f => simp; omega
              have i2 : decide ((i : Int) < 20000) = true := by simpa using i1
              cases f with
              | zero => cases hrun
              | succ f =>
              rcases runLast_ok hrun with ⟨hl, q1, _, q3⟩ | ⟨hl, σ', kd', r', hst, hnext⟩
              · rw [q3, q1] at T9
                rw [q1] at hl
                have HST := Lib.hid (st_tm (b := b) (w0 := w) (g := gd) (o := did kd r11 va vn vc) 1 1 rfl (by decide) hl)
                have T9 := Lib.hid T9
                clear hrun hl q1 q3 hjf hgd
                go_wp2_with (first | (go_at_call 18; refine (HST.out _ T9.out).mono ?_; rintro e w9 ⟨y1, y2, y3, y4, y5, y6, y7, y8, rfl, q⟩; have hf := fld_live (.bool false) y1 y2 y3 y4 y5 y6 y7 y8; have T10 := Lib.hid q; clear q T9) | (go_at_call 29; refine (HPS.out _ _ _ T10.out).mono ?_; rintro e w10 ⟨rg, ro, rc, rfl, s1, s2, q⟩; have d4 : w10.cell? ⟨gd, 4, none⟩ = some (.int .i64 4) := (by have ho := q.obj; simp only [did, didL] at ho; simp [World.cell?, ho, P1]); have d5 : w10.cell? ⟨gd, 5, none⟩ = some (.int .i64 4) := (by have ho := q.obj; simp only [did, didL] at ho; simp [World.cell?, ho, P2]); have hq := run_eqQ; have T11 := Lib.hid q; clear q T10) | (go_at_call 22; refine (HAW.out _).mono ?_; rintro e w12 ⟨rfl, q⟩; have HB12 := Lib.hid q; clear q))
                go_ret
                exact ⟨rfl, (T11.out.below HB12.out).at.toBelow⟩
              · have HST := Lib.hid (st_tm (b := b) (w0 := w) (g := gd) (o := did kd r va vn vc) 1 1 rfl (by decide) hl)
                have HSP := Lib.hid (sp_tm (b := b) (w0 := w) (g := gd) (o := did kd r va vn vc) 1 1 rfl (by decide) hst)
                have T9 := Lib.hid T9
                have HX := Lib.hid (And.intro hjf hnext)
                have x4 : IntKind.i64.wrap ((i : Int) + 1) = (i : Int) + 1 := by rw [IntKind.wrap_i64]; omega
                clear hrun hl hst hnext hjf
                go_wp2_with (first | (go_at_call 18; refine (HST.out _ T9.out).mono ?_; rintro e w9 ⟨y1, y2, y3, y4, y5, y6, y7, y8, rfl, q⟩; have hf := fld_live (.bool true) y1 y2 y3 y4 y5 y6 y7 y8; have T10 := Lib.hid q; clear q T9) | (go_at_call 19; refine (HSP.out _ T10.out).mono ?_; rintro e w10 ⟨ua, un, uc, rfl, q⟩; have hp := did_put q kd' r' ua un uc; have HP := Lib.hid hp; clear hp; clear q T10) | (refine wpList_store_mid rfl 44 (.tmp 27) (.tmp 163) rfl gd 0 #[.int .i64 (kd' : Int), .int .i64 (r'.e : Int), .int .i64 (r'.value : Int), .slice ua un uc, .int .i64 (r'.over : Int), .int .i64 (r'.reason : Int)] rfl rfl HP.out.1 (by kernel_rfl) (by simp [Value.oneCell']) ?_; generalize hws : World.setCells _ _ _ _ = ws))
                subst hws
                exact ⟨⟨i + 1, f, σ', kd', r', ua, un, uc, rfl, by have := HX.out.1; omega, HX.out.2, HP.out.2⟩, by have := HX.out.1; simp [intOf]; omega⟩
          · have HST := Lib.hid (st_kt (b := b) (w0 := w) 0 0 rfl (by decide) hl)
            have HSP := Lib.hid (sp_kt (b := b) (w0 := w) 0 0 rfl (by decide) hst)
            have T6 := Lib.hid T6
            have HX := Lib.hid (And.intro hjf hnext)
            have i1 : ((i : Int) < 20000) = True := by simp; omega
            have i2 : decide ((i : Int) < 20000) = true := by simp; omega
            have x4 : IntKind.i64.wrap ((i : Int) + 1) = (i : Int) + 1 := by rw [IntKind.wrap_i64]; omega
            clear hrun hl hst hnext hjf
            go_wp2_with (first | (go_at_call 18; refine (HST.out _ T6.out).mono ?_; rintro e w9 ⟨y1, y2, y3, y4, y5, y6, y7, y8, rfl, q⟩; have hf := fld_live (.bool true) y1 y2 y3 y4 y5 y6 y7 y8; have T7 := Lib.hid q; clear q T6) | (go_at_call 19; refine (HSP.out _ T7.out).mono ?_; rintro e w10 ⟨ua, un, uc, rfl, q⟩; have T8 := Lib.hid q; clear q T7))
            exact ⟨⟨i + 1, f, σ', kd', r', rfl, by have := HX.out.1; omega, HX.out.2, (T8.out.alloc _).drop⟩, by have := HX.out.1; simp [intOf]; omega⟩)
end Go.Proofs.YtdgombgcjeelpaaGreat.Em

namespace Go.Proofs.YtdgombgcjeelpaaGreat.Em
open Go.ChangeShapes Go.WideShapes Go.ChangeAt Go.RowKit En
set_option linter.unusedVariables false
set_option linter.unusedSimpArgs false
set_option maxRecDepth 100000
set_option maxHeartbeats 1600000

theorem bond_law100 (how' level' reader' : Int) (w : World) (hw0 : (bits .and .i64 how' 255).tmod 3 = 1) : Calls Tryz.prog 9 #[.int .i64 how', .int .i64 level', .int .i64 reader', .bool false, .bool false] w fun e w' => e = .returned (.bool true) ∧ Below w.heap.size w w' := by
  have hws := hw0
  obtain ⟨a, ha, has⟩ := mask_to level' 3 (by decide)
  obtain ⟨c, hc, hcs⟩ := mask_to reader' 3 (by decide)
  rw [show ((3 : Nat) : Int) = 3 from rfl] at has hcs
  obtain ⟨L, hL1, hLv⟩ : ∃ L : Nat, (1 ≤ L ∧ L ≤ 3) ∧ (L : Int) = (a : Int) + 1 := ⟨a + 1, by omega, rfl⟩
  have hall := bond_all 1 L (c + 1) false false (by omega) hL1.1 hL1.2 (by omega) (by omega) (fun h => by cases h)
  obtain ⟨σ1, σ2, σ3, σ4, h1, h2, h3, h4, hend⟩ := bondRun_ok hall
  obtain ⟨σ5, i5, σ6, h5, h6, h7⟩ := bondRead_ok h4
  obtain ⟨σ7, σ8, r8, σ9, σ10, k10, r10, σ11, k11, r11, e1, e2, e3, e4, e5, e6, e7, e8⟩ := bondEnd_ok hend
  clear hall hend h4
  have n1 : IntKind.i64.wrap ((a : Int) + 1) = (a : Int) + 1 := by rw [IntKind.wrap_i64]; omega
  have n2 : IntKind.i64.wrap ((c : Int) + 1) = (c : Int) + 1 := by rw [IntKind.wrap_i64]; omega
  rw [show readOf 1 false = ⟨1, 3, 0, 0⟩ from rfl] at h6
  have HDI : Hid (∀ lv : Int, (L : Int) = lv → Calls Tryz.prog 37 #[.int .i64 1, .int .i64 lv, .bool false] w fun e w' => ∃ b, e = .returned (.pointer (some ⟨b, 0, none⟩)) ∧ EKt b w [] σ3 w') := fun lv hlv => dir_10 L lv hlv w σ1 σ2 σ3 h1 h2 h3
  have HAW := Lib.hid awake24
  clear h1 h2 h3
  go_enter Tryz.func9, Tryz.ntmps9
  go_upto_region 2 with fail
  generalize hcc : (c : Int) + 1 = cc at *
  generalize haa : (a : Int) + 1 = aa at *
  clear hws hw0 has hcs n1 n2
  go_upto_region 7 with (go_at_call 37; refine (HDI.out _ hLv).mono ?_; rintro e w1 ⟨b, rfl, q⟩; have T0 := Lib.hid q; clear q)
  clear HDI
  have HB1 : Hid (∀ ks w1, EKt b w ks σ3 w1 → Calls Tryz.prog 35 #[.pointer (some ⟨b, 0, none⟩), .int .i64 1, .int .i64 cc] w1 (EV b w ks σ5 (.tuple #[.int .i64 (i5 : Int), .int .i64 0]))) := fun ks w1 h => by
    rw [← hcc]
    exact begin_kt (s := 1) h (by decide) h5
  have HD1 : Hid (∀ ks w1, EKt b w ks σ5 w1 → Calls Tryz.prog 31 #[.pointer (some ⟨b, 0, none⟩), .int .i64 1, .agg #[.int .i64 1, .int .i64 3, .int .i64 0, .int .i64 0]] w1 (fun e w' => ∃ va vc, e = .returned (.tuple #[.agg #[.int .i64 11, .int .i64 0, .slice va 0 vc, .int .i64 0, .int .i64 0], .int .i64 0]) ∧ EKt b w (.row 2 (.slice va 0 vc) (pairCs []) :: ks) σ4 w')) := fun ks w1 h => by
    refine (do_kt (s := 1) h (o := ⟨1, 3, 0, 0⟩) (by decide) h6 (by decide : (1000 : Nat) ≤ _) h7).mono ?_
    rintro e w' ⟨va, vn, vc, rfl, hvn, q⟩
    subst hvn
    exact ⟨va, vc, rfl, q⟩
  have HD2 := Lib.hid (wait_kt (b := b) (w0 := w) e1 e2)
  have HSB := Lib.hid (sb_kt (b := b) (w0 := w) e3)
  have E4 := Lib.hid e4
  have E5 := Lib.hid e5
  have E6 := Lib.hid e6
  replace e8 : r11.over = 3 ∧ σ11.pairs.length = 1 := e8
  obtain ⟨p1, p2⟩ := e8
  have HPS := Lib.hid (ps_len (b := b) (w0 := w) 1 e7 p2)
  have P1 : (r11.over : Int) = 3 := by rw [p1]; rfl
  clear h5 h6 h7 e1 e2 e3 e4 e5 e6 e7 p1 p2 hL1
  go_upto_region 18 with (go_at_call 35; refine (HB1.out _ _ (T0.out)).mono ?_; rintro e w2 ⟨rfl, q⟩; have T1 := Lib.hid q; clear q T0)
  go_upto_region 25 with (first | (go_at_call 31; refine (HD1.out _ _ (((T1.out.allocg (w2.heap.size) rfl _).allocg (w2.heap.size + 1) (by simp) _).allocg (w2.heap.size + 1 + 1) (by simp) _)).mono ?_; rintro e w3 ⟨va, vc, rfl, q⟩; have hw := q.obj (k := w2.heap.size + 1 + 1) (o := Obj.cells #[.int .i64 11, .int .i64 0, .slice none 0 0, .int .i64 0, .int .i64 0] 42) (List.mem_cons_of_mem _ (List.mem_cons_self ..)); obtain ⟨c0, c1, c2, c3, c4⟩ := cells5 hw (Obj.cells #[.int .i64 11, .int .i64 0, .slice va 0 vc, .int .i64 0, .int .i64 0] 42); clear hw; have T2 := Lib.hid q; clear q T1) | (go_at_call 38; refine (same_result _ _ _ _ _ _ _ _ _ [] _ (Row.alloc' (T2.out.row (List.mem_cons_self ..)) _) (Row.alloc' (row_nil _ _) _)).mono ?_; rintro e w4 ⟨rfl, q⟩; have T3 := Lib.hid ((T2.out.alloc _).below q); clear q T2) | (go_at_call 31; refine (HD2.out _ _ (T3.out)).mono ?_; rintro e w5 ⟨vb, vm, vd, rfl, q⟩; have T4 := Lib.hid q; clear q T3) | (go_at_call 18; refine (HSB.out _ _ (T4.out.alloc _)).mono ?_; rintro e w6 ⟨y1, y2, y3, y4, y5, y6, y7, y8, rfl, q⟩; have hf := fld_busy (.bool true) y1 y2 y3 y4 y5 y6 y7 y8; have T5 := Lib.hid q; clear q T4))
  have T5d := Lib.hid T5.out.drop
  clear T5 HD1 HD2 HSB
  go_loopw [21] (fun i wr => ∃ (j f : Nat) (σ : St), i = .int .i64 (j : Int) ∧ j + f = 10 ∧ runSome 1 f σ = some σ9 ∧ EKt b w [] σ wr) (fun i _ => 10 - (intOf i).toNat)
  case atStart => exact ⟨0, 10, σ8, rfl, rfl, E4.out, T5d.out⟩
  case round =>
    clear T5d E4
    obtain ⟨j, f, σ, rfl, hjf, hrun, T6⟩ := hrel
    have T6 := Lib.hid T6
    cases f with
    | succ f =>
      obtain ⟨σ', kd', r', hst, hk3, hnext⟩ := runSome_ok hrun
      have HSP := Lib.hid (sp_kt (b := b) (w0 := w) 1 1 rfl (by decide) hst)
      have HX := Lib.hid (And.intro hjf hnext)
      have j1 : ((j : Int) < 10) = True := by simp; omega
      have j2 : decide ((j : Int) < 10) = true := by simp; omega
      have x4 : IntKind.i64.wrap ((j : Int) + 1) = (j : Int) + 1 := by rw [IntKind.wrap_i64]; omega
      have k3 : (kd' : Int) ≠ 3 := by omega
      have k1 : ((kd' : Int) == 3) = false := by simp; omega
      have k2 : ((kd' : Int) = 3) = False := by simp; omega
      clear k3
      clear hrun hst hnext hk3
      generalize (kd' : Int) = kz at *
      go_wp2_with (go_at_call 19; refine (HSP.out _ T6.out).mono ?_; rintro e w9 ⟨ua, un, uc, rfl, q⟩; have T7 := Lib.hid q; clear q T6)
      exact ⟨⟨j + 1, f, σ', rfl, by have := HX.out.1; omega, HX.out.2, (T7.out.alloc _).drop⟩, by have := HX.out.1; simp [intOf]; omega⟩
    | zero =>
      obtain rfl : σ = σ9 := Option.some.inj hrun
      have j1 : ((j : Int) < 10) = False := by simp; omega
      have j2 : decide ((j : Int) < 10) = false := by simp; omega
      clear hrun hjf
      go_upto_region 31 with fail
      go_loopw [24] (fun i wr => ∃ (j f : Nat) (σ : St) (kd : Nat) (r : Res), i = .int .i64 (j : Int) ∧ j + f = 1000 ∧ runLast 0 f σ kd r = some (σ10, k10, r10) ∧ EKt b w [] σ wr) (fun i _ => 1000 - (intOf i).toNat)
      case atStart => exact ⟨0, 1000, _, 0, {}, rfl, rfl, E5.out, T6.out⟩
      case round =>
        clear T6 E5 j1 j2
        obtain ⟨i, f, τ, kd, r, rfl, hjf, hrun, T6⟩ := hrel
        cases f with
        | zero => cases hrun
        | succ f =>
        rcases runLast_ok hrun with ⟨hl, q1, _, _⟩ | ⟨hl, σ', kd', r', hst, hnext⟩
        · rw [q1] at hl T6
          have HST := Lib.hid (st_kt (b := b) (w0 := w) 0 0 rfl (by decide) hl)
          have T6 := Lib.hid T6
          clear hrun hl q1 hjf
          go_upto_region 38 with (go_at_call 18; refine (HST.out _ T6.out).mono ?_; rintro e wx ⟨y1, y2, y3, y4, y5, y6, y7, y8, rfl, q⟩; have hf := fld_live (.bool false) y1 y2 y3 y4 y5 y6 y7 y8; have T7 := Lib.hid q; clear q T6)
          have T8 := Lib.hid (T7.out.tm (.cells #[.int .i64 0, .int .i64 0, .int .i64 0, .slice none 0 0, .int .i64 0, .int .i64 0] 44))
          clear T7
          go_loopw [28] (fun i wr => ∃ (j f : Nat) (σ : St) (kd : Nat) (r : Res) (va : Option Addr) (vn vc : Nat), i = .int .i64 (j : Int) ∧ j + f = 1000 ∧ runLast 1 f σ kd r = some (σ11, k11, r11) ∧ ETm b w wx.heap.size (did kd r va vn vc) σ wr) (fun i _ => 1000 - (intOf i).toNat)
          case atStart => exact ⟨0, 1000, _, 0, {}, none, 0, 0, rfl, rfl, E6.out, T8.out⟩
          case round =>
            clear T8 E6
            obtain ⟨i, f, υ, kd, r, va, vn, vc, rfl, hjf, hrun, T9⟩ := hrel
            generalize hgd : wx.heap.size = gd at *
            have i1 : ((i : Int) < 20000) = True := by
              cases f with
              | zero => cases hrun
              | succ f => simp; omega
            have i2 : decide ((i : Int) < 20000) = true := by simpa using i1
            cases f with
            | zero => cases hrun
            | succ f =>
            rcases runLast_ok hrun with ⟨hl, q1, _, q3⟩ | ⟨hl, σ', kd', r', hst, hnext⟩
            · rw [q3, q1] at T9
              rw [q1] at hl
              have HST := Lib.hid (st_tm (b := b) (w0 := w) (g := gd) (o := did kd r11 va vn vc) 1 1 rfl (by decide) hl)
              have T9 := Lib.hid T9
              clear hrun hl q1 q3 hjf hgd
              go_wp2_with (first | (go_at_call 18; refine (HST.out _ T9.out).mono ?_; rintro e w9 ⟨y1, y2, y3, y4, y5, y6, y7, y8, rfl, q⟩; have hf := fld_live (.bool false) y1 y2 y3 y4 y5 y6 y7 y8; have T10 := Lib.hid q; clear q T9) | (go_at_call 29; refine (HPS.out _ _ _ T10.out).mono ?_; rintro e w10 ⟨av, rc, rfl, q⟩; have d4 : w10.cell? ⟨gd, 4, none⟩ = some (.int .i64 3) := (by have ho := q.obj; simp only [did, didL] at ho; simp [World.cell?, ho, P1]); have T11 := Lib.hid q; clear q T10) | (go_at_call 22; refine (HAW.out _).mono ?_; rintro e w12 ⟨rfl, q⟩; have HB12 := Lib.hid q; clear q))
              go_ret
              exact ⟨rfl, ((T11.out.alloc _).below HB12.out).at.toBelow⟩
            · have HST := Lib.hid (st_tm (b := b) (w0 := w) (g := gd) (o := did kd r va vn vc) 1 1 rfl (by decide) hl)
              have HSP := Lib.hid (sp_tm (b := b) (w0 := w) (g := gd) (o := did kd r va vn vc) 1 1 rfl (by decide) hst)
              have T9 := Lib.hid T9
              have HX := Lib.hid (And.intro hjf hnext)
              have x4 : IntKind.i64.wrap ((i : Int) + 1) = (i : Int) + 1 := by rw [IntKind.wrap_i64]; omega
              clear hrun hl hst hnext hjf
              go_wp2_with (first | (go_at_call 18; refine (HST.out _ T9.out).mono ?_; rintro e w9 ⟨y1, y2, y3, y4, y5, y6, y7, y8, rfl, q⟩; have hf := fld_live (.bool true) y1 y2 y3 y4 y5 y6 y7 y8; have T10 := Lib.hid q; clear q T9) | (go_at_call 19; refine (HSP.out _ T10.out).mono ?_; rintro e w10 ⟨ua, un, uc, rfl, q⟩; have hp := did_put q kd' r' ua un uc; have HP := Lib.hid hp; clear hp; clear q T10) | (refine wpList_store_mid rfl 44 (.tmp 27) (.tmp 163) rfl gd 0 #[.int .i64 (kd' : Int), .int .i64 (r'.e : Int), .int .i64 (r'.value : Int), .slice ua un uc, .int .i64 (r'.over : Int), .int .i64 (r'.reason : Int)] rfl rfl HP.out.1 (by kernel_rfl) (by simp [Value.oneCell']) ?_; generalize hws : World.setCells _ _ _ _ = ws))
              subst hws
              exact ⟨⟨i + 1, f, σ', kd', r', ua, un, uc, rfl, by have := HX.out.1; omega, HX.out.2, HP.out.2⟩, by have := HX.out.1; simp [intOf]; omega⟩
        · have HST := Lib.hid (st_kt (b := b) (w0 := w) 0 0 rfl (by decide) hl)
          have HSP := Lib.hid (sp_kt (b := b) (w0 := w) 0 0 rfl (by decide) hst)
          have T6 := Lib.hid T6
          have HX := Lib.hid (And.intro hjf hnext)
          have i1 : ((i : Int) < 20000) = True := by simp; omega
          have i2 : decide ((i : Int) < 20000) = true := by simp; omega
          have x4 : IntKind.i64.wrap ((i : Int) + 1) = (i : Int) + 1 := by rw [IntKind.wrap_i64]; omega
          clear hrun hl hst hnext hjf
          go_wp2_with (first | (go_at_call 18; refine (HST.out _ T6.out).mono ?_; rintro e w9 ⟨y1, y2, y3, y4, y5, y6, y7, y8, rfl, q⟩; have hf := fld_live (.bool true) y1 y2 y3 y4 y5 y6 y7 y8; have T7 := Lib.hid q; clear q T6) | (go_at_call 19; refine (HSP.out _ T7.out).mono ?_; rintro e w10 ⟨ua, un, uc, rfl, q⟩; have T8 := Lib.hid q; clear q T7))
          exact ⟨⟨i + 1, f, σ', kd', r', rfl, by have := HX.out.1; omega, HX.out.2, (T8.out.alloc _).drop⟩, by have := HX.out.1; simp [intOf]; omega⟩
end Go.Proofs.YtdgombgcjeelpaaGreat.Em

namespace Go.Proofs.YtdgombgcjeelpaaGreat.Em
open Go.ChangeShapes Go.WideShapes Go.ChangeAt Go.RowKit En
set_option linter.unusedVariables false
set_option linter.unusedSimpArgs false
set_option maxRecDepth 100000
set_option maxHeartbeats 1600000

theorem bond_law101 (how' level' reader' : Int) (w : World) (hw0 : (bits .and .i64 how' 255).tmod 3 = 1) : Calls Tryz.prog 9 #[.int .i64 how', .int .i64 level', .int .i64 reader', .bool false, .bool true] w fun e w' => e = .returned (.bool true) ∧ Below w.heap.size w w' := by
  have hws := hw0
  obtain ⟨a, ha, has⟩ := mask_to level' 3 (by decide)
  obtain ⟨c, hc, hcs⟩ := mask_to reader' 3 (by decide)
  rw [show ((3 : Nat) : Int) = 3 from rfl] at has hcs
  obtain ⟨L, lv, hL1, hLv, hb1, hcase⟩ : ∃ (L : Nat) (lv : Int), (1 ≤ L ∧ L ≤ 3) ∧ (L : Int) = lv ∧ L ≠ 1 ∧ (((a : Int) + 1 = 1 ∧ lv = 3) ∨ ((a : Int) + 1 ≠ 1 ∧ lv = (a : Int) + 1)) := by
    by_cases ha0 : a = 0
    · exact ⟨3, 3, by omega, rfl, by omega, .inl ⟨by omega, rfl⟩⟩
    · exact ⟨a + 1, (a : Int) + 1, by omega, rfl, by omega, .inr ⟨by omega, rfl⟩⟩
  have hall := bond_all 1 L (c + 1) false true (by omega) hL1.1 hL1.2 (by omega) (by omega) (fun _ => hb1)
  obtain ⟨σ1, σ2, σ3, σ4, h1, h2, h3, h4, hend⟩ := bondRun_ok hall
  obtain ⟨σ5, i5, σ6, h5, h6, h7⟩ := bondRead_ok h4
  obtain ⟨σ7, σ8, r8, σ9, σ10, k10, r10, σ11, k11, r11, e1, e2, e3, e4, e5, e6, e7, e8⟩ := bondEnd_ok hend
  clear hall hend h4
  rw [if_pos rfl] at e8
  have n1 : IntKind.i64.wrap ((a : Int) + 1) = (a : Int) + 1 := by rw [IntKind.wrap_i64]; omega
  have n2 : IntKind.i64.wrap ((c : Int) + 1) = (c : Int) + 1 := by rw [IntKind.wrap_i64]; omega
  rw [show readOf 1 false = ⟨1, 3, 0, 0⟩ from rfl] at h6
  have HDI : Hid (∀ lv : Int, (L : Int) = lv → Calls Tryz.prog 37 #[.int .i64 1, .int .i64 lv, .bool true] w fun e w' => ∃ b, e = .returned (.pointer (some ⟨b, 0, none⟩)) ∧ EKt b w [] σ3 w') := fun lv hlv => dir_11 L lv hlv w σ1 σ2 σ3 h1 h2 h3
  have HAW := Lib.hid awake24
  clear h1 h2 h3
  go_enter Tryz.func9, Tryz.ntmps9
  go_upto_region 2 with fail
  generalize hcc : (c : Int) + 1 = cc at *
  generalize haa : (a : Int) + 1 = aa at *
  clear hws hw0 has hcs n1 n2
  rcases hcase with ⟨z1, z2⟩ | ⟨z1, z2⟩
  all_goals rw [z2] at hLv
  all_goals (first | (have f1 : (aa = 1) = True := (by simp; omega); have f2 : (aa == 1) = true := (by simp; omega); go_upto_region 7 with (go_at_call 37; refine (HDI.out _ hLv).mono ?_; rintro e w1 ⟨b, rfl, q⟩; have T0 := Lib.hid q; clear q); clear f1 f2) | (have f1 : (aa = 1) = False := (by simp; omega); have f2 : (aa == 1) = false := (by simp; omega); go_upto_region 7 with (go_at_call 37; refine (HDI.out _ hLv).mono ?_; rintro e w1 ⟨b, rfl, q⟩; have T0 := Lib.hid q; clear q); clear f1 f2))
  all_goals clear HDI z1 z2
  all_goals (
    have HB1 : Hid (∀ ks w1, EKt b w ks σ3 w1 → Calls Tryz.prog 35 #[.pointer (some ⟨b, 0, none⟩), .int .i64 1, .int .i64 cc] w1 (EV b w ks σ5 (.tuple #[.int .i64 (i5 : Int), .int .i64 0]))) := fun ks w1 h => by
      rw [← hcc]
      exact begin_kt (s := 1) h (by decide) h5
    have HD1 : Hid (∀ ks w1, EKt b w ks σ5 w1 → Calls Tryz.prog 31 #[.pointer (some ⟨b, 0, none⟩), .int .i64 1, .agg #[.int .i64 1, .int .i64 3, .int .i64 0, .int .i64 0]] w1 (fun e w' => ∃ va vc, e = .returned (.tuple #[.agg #[.int .i64 11, .int .i64 0, .slice va 0 vc, .int .i64 0, .int .i64 0], .int .i64 0]) ∧ EKt b w (.row 2 (.slice va 0 vc) (pairCs []) :: ks) σ4 w')) := fun ks w1 h => by
      refine (do_kt (s := 1) h (o := ⟨1, 3, 0, 0⟩) (by decide) h6 (by decide : (1000 : Nat) ≤ _) h7).mono ?_
      rintro e w' ⟨va, vn, vc, rfl, hvn, q⟩
      subst hvn
      exact ⟨va, vc, rfl, q⟩
    have HD2 := Lib.hid (wait_kt (b := b) (w0 := w) e1 e2)
    have HSB := Lib.hid (sb_kt (b := b) (w0 := w) e3)
    have E4 := Lib.hid e4
    have E5 := Lib.hid e5
    have E6 := Lib.hid e6
    obtain ⟨p1, p2, ps, p3, p4⟩ := e8
    have HPS := Lib.hid (ps_two (b := b) (w0 := w) e7 p3 p4)
    have P1 : (r11.over : Int) = 4 := by rw [p1]; rfl
    have P2 : (r11.reason : Int) = 4 := by rw [p2]; rfl
    clear h5 h6 h7 e1 e2 e3 e4 e5 e6 e7 p1 p2 p3 p4 hL1
    go_upto_region 18 with (go_at_call 35; refine (HB1.out _ _ (T0.out)).mono ?_; rintro e w2 ⟨rfl, q⟩; have T1 := Lib.hid q; clear q T0)
    go_upto_region 25 with (first | (go_at_call 31; refine (HD1.out _ _ (((T1.out.allocg (w2.heap.size) rfl _).allocg (w2.heap.size + 1) (by simp) _).allocg (w2.heap.size + 1 + 1) (by simp) _)).mono ?_; rintro e w3 ⟨va, vc, rfl, q⟩; have hw := q.obj (k := w2.heap.size + 1 + 1) (o := Obj.cells #[.int .i64 11, .int .i64 0, .slice none 0 0, .int .i64 0, .int .i64 0] 42) (List.mem_cons_of_mem _ (List.mem_cons_self ..)); obtain ⟨c0, c1, c2, c3, c4⟩ := cells5 hw (Obj.cells #[.int .i64 11, .int .i64 0, .slice va 0 vc, .int .i64 0, .int .i64 0] 42); clear hw; have T2 := Lib.hid q; clear q T1) | (go_at_call 38; refine (same_result _ _ _ _ _ _ _ _ _ [] _ (Row.alloc' (T2.out.row (List.mem_cons_self ..)) _) (Row.alloc' (row_nil _ _) _)).mono ?_; rintro e w4 ⟨rfl, q⟩; have T3 := Lib.hid ((T2.out.alloc _).below q); clear q T2) | (go_at_call 31; refine (HD2.out _ _ (T3.out)).mono ?_; rintro e w5 ⟨vb, vm, vd, rfl, q⟩; have T4 := Lib.hid q; clear q T3) | (go_at_call 18; refine (HSB.out _ _ (T4.out.alloc _)).mono ?_; rintro e w6 ⟨y1, y2, y3, y4, y5, y6, y7, y8, rfl, q⟩; have hf := fld_busy (.bool true) y1 y2 y3 y4 y5 y6 y7 y8; have T5 := Lib.hid q; clear q T4))
    have T5d := Lib.hid T5.out.drop
    clear T5 HD1 HD2 HSB
    go_loopw [21] (fun i wr => ∃ (j f : Nat) (σ : St), i = .int .i64 (j : Int) ∧ j + f = 10 ∧ runSome 1 f σ = some σ9 ∧ EKt b w [] σ wr) (fun i _ => 10 - (intOf i).toNat)
    case atStart => exact ⟨0, 10, σ8, rfl, rfl, E4.out, T5d.out⟩
    case round =>
      clear T5d E4
      obtain ⟨j, f, σ, rfl, hjf, hrun, T6⟩ := hrel
      have T6 := Lib.hid T6
      cases f with
      | succ f =>
        obtain ⟨σ', kd', r', hst, hk3, hnext⟩ := runSome_ok hrun
        have HSP := Lib.hid (sp_kt (b := b) (w0 := w) 1 1 rfl (by decide) hst)
        have HX := Lib.hid (And.intro hjf hnext)
        have j1 : ((j : Int) < 10) = True := by simp; omega
        have j2 : decide ((j : Int) < 10) = true := by simp; omega
        have x4 : IntKind.i64.wrap ((j : Int) + 1) = (j : Int) + 1 := by rw [IntKind.wrap_i64]; omega
        have k3 : (kd' : Int) ≠ 3 := by omega
        have k1 : ((kd' : Int) == 3) = false := by simp; omega
        have k2 : ((kd' : Int) = 3) = False := by simp; omega
        clear k3
        clear hrun hst hnext hk3
        generalize (kd' : Int) = kz at *
        go_wp2_with (go_at_call 19; refine (HSP.out _ T6.out).mono ?_; rintro e w9 ⟨ua, un, uc, rfl, q⟩; have T7 := Lib.hid q; clear q T6)
        exact ⟨⟨j + 1, f, σ', rfl, by have := HX.out.1; omega, HX.out.2, (T7.out.alloc _).drop⟩, by have := HX.out.1; simp [intOf]; omega⟩
      | zero =>
        obtain rfl : σ = σ9 := Option.some.inj hrun
        have j1 : ((j : Int) < 10) = False := by simp; omega
        have j2 : decide ((j : Int) < 10) = false := by simp; omega
        clear hrun hjf
        go_upto_region 31 with fail
        go_loopw [24] (fun i wr => ∃ (j f : Nat) (σ : St) (kd : Nat) (r : Res), i = .int .i64 (j : Int) ∧ j + f = 1000 ∧ runLast 0 f σ kd r = some (σ10, k10, r10) ∧ EKt b w [] σ wr) (fun i _ => 1000 - (intOf i).toNat)
        case atStart => exact ⟨0, 1000, _, 0, {}, rfl, rfl, E5.out, T6.out⟩
        case round =>
          clear T6 E5 j1 j2
          obtain ⟨i, f, τ, kd, r, rfl, hjf, hrun, T6⟩ := hrel
          cases f with
          | zero => cases hrun
          | succ f =>
          rcases runLast_ok hrun with ⟨hl, q1, _, _⟩ | ⟨hl, σ', kd', r', hst, hnext⟩
          · rw [q1] at hl T6
            have HST := Lib.hid (st_kt (b := b) (w0 := w) 0 0 rfl (by decide) hl)
            have T6 := Lib.hid T6
            clear hrun hl q1 hjf
            go_upto_region 38 with (go_at_call 18; refine (HST.out _ T6.out).mono ?_; rintro e wx ⟨y1, y2, y3, y4, y5, y6, y7, y8, rfl, q⟩; have hf := fld_live (.bool false) y1 y2 y3 y4 y5 y6 y7 y8; have T7 := Lib.hid q; clear q T6)
            have T8 := Lib.hid (T7.out.tm (.cells #[.int .i64 0, .int .i64 0, .int .i64 0, .slice none 0 0, .int .i64 0, .int .i64 0] 44))
            clear T7
            go_loopw [28] (fun i wr => ∃ (j f : Nat) (σ : St) (kd : Nat) (r : Res) (va : Option Addr) (vn vc : Nat), i = .int .i64 (j : Int) ∧ j + f = 1000 ∧ runLast 1 f σ kd r = some (σ11, k11, r11) ∧ ETm b w wx.heap.size (did kd r va vn vc) σ wr) (fun i _ => 1000 - (intOf i).toNat)
            case atStart => exact ⟨0, 1000, _, 0, {}, none, 0, 0, rfl, rfl, E6.out, T8.out⟩
            case round =>
              clear T8 E6
              obtain ⟨i, f, υ, kd, r, va, vn, vc, rfl, hjf, hrun, T9⟩ := hrel
              generalize hgd : wx.heap.size = gd at *
              have i1 : ((i : Int) < 20000) = True := by
                cases f with
                | zero => cases hrun
                | succ f => simp; omega
              have i2 : decide ((i : Int) < 20000) = true := by simpa using i1
              cases f with
              | zero => cases hrun
              | succ f =>
              rcases runLast_ok hrun with ⟨hl, q1, _, q3⟩ | ⟨hl, σ', kd', r', hst, hnext⟩
              · rw [q3, q1] at T9
                rw [q1] at hl
                have HST := Lib.hid (st_tm (b := b) (w0 := w) (g := gd) (o := did kd r11 va vn vc) 1 1 rfl (by decide) hl)
                have T9 := Lib.hid T9
                clear hrun hl q1 q3 hjf hgd
                go_wp2_with (first | (go_at_call 18; refine (HST.out _ T9.out).mono ?_; rintro e w9 ⟨y1, y2, y3, y4, y5, y6, y7, y8, rfl, q⟩; have hf := fld_live (.bool false) y1 y2 y3 y4 y5 y6 y7 y8; have T10 := Lib.hid q; clear q T9) | (go_at_call 29; refine (HPS.out _ _ _ T10.out).mono ?_; rintro e w10 ⟨rg, ro, rc, rfl, s1, s2, q⟩; have d4 : w10.cell? ⟨gd, 4, none⟩ = some (.int .i64 4) := (by have ho := q.obj; simp only [did, didL] at ho; simp [World.cell?, ho, P1]); have d5 : w10.cell? ⟨gd, 5, none⟩ = some (.int .i64 4) := (by have ho := q.obj; simp only [did, didL] at ho; simp [World.cell?, ho, P2]); have hq := run_eqQ; have T11 := Lib.hid q; clear q T10) | (go_at_call 22; refine (HAW.out _).mono ?_; rintro e w12 ⟨rfl, q⟩; have HB12 := Lib.hid q; clear q))
                go_ret
                exact ⟨rfl, (T11.out.below HB12.out).at.toBelow⟩
              · have HST := Lib.hid (st_tm (b := b) (w0 := w) (g := gd) (o := did kd r va vn vc) 1 1 rfl (by decide) hl)
                have HSP := Lib.hid (sp_tm (b := b) (w0 := w) (g := gd) (o := did kd r va vn vc) 1 1 rfl (by decide) hst)
                have T9 := Lib.hid T9
                have HX := Lib.hid (And.intro hjf hnext)
                have x4 : IntKind.i64.wrap ((i : Int) + 1) = (i : Int) + 1 := by rw [IntKind.wrap_i64]; omega
                clear hrun hl hst hnext hjf
                go_wp2_with (first | (go_at_call 18; refine (HST.out _ T9.out).mono ?_; rintro e w9 ⟨y1, y2, y3, y4, y5, y6, y7, y8, rfl, q⟩; have hf := fld_live (.bool true) y1 y2 y3 y4 y5 y6 y7 y8; have T10 := Lib.hid q; clear q T9) | (go_at_call 19; refine (HSP.out _ T10.out).mono ?_; rintro e w10 ⟨ua, un, uc, rfl, q⟩; have hp := did_put q kd' r' ua un uc; have HP := Lib.hid hp; clear hp; clear q T10) | (refine wpList_store_mid rfl 44 (.tmp 27) (.tmp 163) rfl gd 0 #[.int .i64 (kd' : Int), .int .i64 (r'.e : Int), .int .i64 (r'.value : Int), .slice ua un uc, .int .i64 (r'.over : Int), .int .i64 (r'.reason : Int)] rfl rfl HP.out.1 (by kernel_rfl) (by simp [Value.oneCell']) ?_; generalize hws : World.setCells _ _ _ _ = ws))
                subst hws
                exact ⟨⟨i + 1, f, σ', kd', r', ua, un, uc, rfl, by have := HX.out.1; omega, HX.out.2, HP.out.2⟩, by have := HX.out.1; simp [intOf]; omega⟩
          · have HST := Lib.hid (st_kt (b := b) (w0 := w) 0 0 rfl (by decide) hl)
            have HSP := Lib.hid (sp_kt (b := b) (w0 := w) 0 0 rfl (by decide) hst)
            have T6 := Lib.hid T6
            have HX := Lib.hid (And.intro hjf hnext)
            have i1 : ((i : Int) < 20000) = True := by simp; omega
            have i2 : decide ((i : Int) < 20000) = true := by simp; omega
            have x4 : IntKind.i64.wrap ((i : Int) + 1) = (i : Int) + 1 := by rw [IntKind.wrap_i64]; omega
            clear hrun hl hst hnext hjf
            go_wp2_with (first | (go_at_call 18; refine (HST.out _ T6.out).mono ?_; rintro e w9 ⟨y1, y2, y3, y4, y5, y6, y7, y8, rfl, q⟩; have hf := fld_live (.bool true) y1 y2 y3 y4 y5 y6 y7 y8; have T7 := Lib.hid q; clear q T6) | (go_at_call 19; refine (HSP.out _ T7.out).mono ?_; rintro e w10 ⟨ua, un, uc, rfl, q⟩; have T8 := Lib.hid q; clear q T7))
            exact ⟨⟨i + 1, f, σ', kd', r', rfl, by have := HX.out.1; omega, HX.out.2, (T8.out.alloc _).drop⟩, by have := HX.out.1; simp [intOf]; omega⟩)
end Go.Proofs.YtdgombgcjeelpaaGreat.Em
