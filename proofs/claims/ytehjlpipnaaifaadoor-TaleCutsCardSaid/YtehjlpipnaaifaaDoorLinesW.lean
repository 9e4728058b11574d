/- TaleLines: the walk. -/
import Derived.Test.YtehjlpipnaaifaaDoorStoA
import Derived.Test.YtehjlpipnaaifaaDoorCutP
import Derived.Test.YtehjlpipnaaifaaDoorLinP
import Derived.Deep.Cut
import Derived.Deep.RegionHeld3
namespace Go.Proofs.YtehjlpipnaaifaaDoor.Tl
open Go.ChangeShapes Go.WideShapes Go.ChangeAt Go.RowKit
set_option linter.unusedVariables false
set_option linter.unusedSimpArgs false
set_option maxRecDepth 100000
set_option maxHeartbeats 4000000

theorem wLines (a : Option Addr) (len cap : Nat) (p1 p2 : Int) (w : World)
    (HST : Hid (Calls Tryd.prog 9 #[.slice a len cap] w fun e w' => ∃ v l, e = .returned v ∧ StI w w.heap.size w' v l 60))
    (HA : Hid (∀ W, Calls Tryd.prog 8 #[] W fun e w' => e = .returned (.bool true) ∧ Below W.heap.size W w')) :
    Calls Tryd.prog 4 #[.slice a len cap, .int .i64 p1, .int .i64 p2] w fun e w' => e = .returned (.bool true) ∧ Below w.heap.size w w' := by
  go_enter Tryd.func4, Tryd.ntmps4
  go_wp2_with fail
  refine HST.out.mono ?_
  rintro e w1 ⟨v, lp, rfl, hS⟩
  have hev : Evs w1 v (lp.map Prod.fst) := evs_own (by rw [List.length_map]; exact hS.row)
  have hln : (lp.map Prod.fst).length ≤ 60 := by rw [List.length_map]; exact hS.len
  have hnn : ∀ e, e ∈ lp.map Prod.fst → e.n < 18446744073709551616 := fun e he => by
    obtain ⟨p, hp, rfl⟩ := List.mem_map.1 he
    have := (hS.all p hp).1.n
    omega
  have havf : (v = .slice none 0 0) ∨ ∃ g c, v = .slice (some ⟨g, 0, none⟩) lp.length c := by
    rcases hS.row.2 with ⟨h, _⟩ | ⟨g, c, _, h, _⟩
    · exact .inl h
    · exact .inr ⟨g, c, h⟩
  have HAVF := Lib.hid havf
  clear havf
  have HB1 := Lib.hid hS.bel
  have hSx := hS.all
  clear hS HST
  have hall : ∀ p, p ∈ lp → Sm p.1 ∧ Prs w1 p.1 p.2 ∧ (p.1.pa = none → p.1.pl = 0 ∧ p.1.pc = 0) := fun p hp => ⟨(hSx p hp).1, (hSx p hp).2.prs, (hSx p hp).2.nil⟩
  have HALL := Lib.hid hall
  clear hall hSx
  obtain ⟨L, hLL⟩ : ∃ L, L = lp.map Prod.fst := ⟨_, rfl⟩
  rw [← hLL] at hev hln hnn
  have HLL := Lib.hid hLL
  clear hLL
  obtain ⟨av, cv, rfl, hv1, hv2, _⟩ := hev.form
  have HOK := Lib.hid (ok_ex hev hnn (by omega))
  have HEV := Lib.hid hev
  have HNN := Lib.hid hnn
  clear hev hnn
  go_upto_if 22 with (go_at_call 7; refine HOK.out.mono ?_; rintro e w2 ⟨g, at', rfl, hg1, hg2, hb⟩; have HG1 := Lib.hid hg1; have HG2 := Lib.hid hg2; have HB2 := Lib.hid hb; clear hg1 hg2 hb)
  go_cut [7] from 14 (fun s7 wc => ∃ m : Nat, s7 = .slice av m cv ∧ m ≤ L.length ∧ okM [] 0 0 ((evs L).take m) = none ∧ wc = w2)
  case first =>
    cases g with
    | true =>
      clear HOK HG2
      go_wp2_with fail
      go_meet
      case rel => exact ⟨L.length, rfl, Nat.le_refl _, ok_take _ _ _ _ _ (HG1.out (by trivial)), rfl⟩
    | false =>
      obtain ⟨j, rfl, hj⟩ := HG2.out (by trivial)
      obtain ⟨_, h2, h3⟩ := ok_some _ _ _ _ _ hj
      rw [Nat.zero_add] at h2
      rw [Nat.sub_zero] at h3
      have hjl : j < L.length := by simpa [evs] using h2
      have i1 : (0 : Int) ≤ (j : Int) := by omega
      have i2 : (j : Int) ≤ (cv : Int) := by omega
      have H3 := Lib.hid h3
      clear HOK HG2 HG1 hj h2 h3
      go_wp2_with fail
      go_meet
      case rel => exact ⟨j, rfl, by omega, H3.out, rfl⟩
  obtain ⟨m, rfl, hm, hok, rfl⟩ := hcut
  clear HOK HG1 HG2
  have hb2 := HB1.out.trans (HB2.out.mono HB1.out.size)
  have hevm : Evs wc (.slice av m cv) (L.take m) := (HEV.out.below HB2.out).take m hm
  have hnm : ∀ e, e ∈ L.take m → e.n < 18446744073709551616 := fun e he => HNN.out e (List.mem_of_mem_take he)
  have hokm : okM [] 0 0 (evs (L.take m)) = none := by rw [evs_take]; exact hok
  have hLm : L.take m = (lp.take m).map Prod.fst := by rw [HLL.out, List.map_take]
  have hlm : (lp.take m).length = m := by rw [List.length_take]; rw [HLL.out, List.length_map] at hm; omega
  have hkd := ok_kinds _ _ _ _ hokm
  have htv : ∀ p, p ∈ lp.take m → TelV wc p ∧ (p.1.pa = none → p.1.pl = 0 ∧ p.1.pc = 0) := fun p hp => by
    have h := HALL.out p (List.mem_of_mem_take hp)
    have hk := hkd p.1.ev (by unfold evs; rw [hLm]; exact List.mem_map.2 ⟨p.1, List.mem_map.2 ⟨p, hp, rfl⟩, rfl⟩)
    exact ⟨⟨h.1, hk, h.2.1.below HB2.out⟩, h.2.2⟩
  rw [hLm] at hevm hnm hokm
  generalize lp.take m = P at *
  have hm60 : m ≤ 60 := by omega
  obtain ⟨κa, ea, ka⟩ := pick_k p1 m
  obtain ⟨κb, eb, kb⟩ := pick_k p2 m
  have HB := Lib.hid hb2
  have HEVM := Lib.hid hevm
  have HNM := Lib.hid hnm
  have HOKM := Lib.hid hokm
  have HTV := Lib.hid htv
  have i3 : ¬ ((m : Int) + 1 = 0) := by omega
  have i4 : ((m : Int) + 1 == 0) = false := by simp; omega
  clear hb2 hevm hnm hokm htv hok HEV HNN HB1 HB2 HALL HLL hLm hkd hln
  go_upto_region 6 with fail
  go_quiet (fail)
  go_upto_if 40 with fail
  go_cut [1, 2] from 14 (fun s1 s2 wd => ∃ α β : Nat, s1 = .int .i64 (α : Int) ∧ s2 = .int .i64 (β : Int) ∧ α ≤ β ∧ β ≤ m ∧ Below wc.heap.size wc wd)
  case first =>
    have hB1 : ∀ q, Below wc.heap.size wc (wc.drewN q) := fun q => below_drewN (Below.refl _ _) q
    have HB1 := Lib.hid hB1
    clear hB1
    by_cases hgt : κb < κa
    · have q0 : (κb : Int) < (κa : Int) := by omega
      have q1 : decide (κb < κa) = true := by simpa using hgt
      go_wp2_with fail
      go_meet
      case rel => exact ⟨κb, κa, rfl, rfl, by omega, by omega, HB1.out _⟩
    · have q0 : ¬ ((κb : Int) < (κa : Int)) := by omega
      have q1 : decide (κb < κa) = false := by simpa using hgt
      go_wp2_with fail
      go_meet
      case rel => exact ⟨κa, κb, rfl, rfl, by omega, by omega, HB1.out _⟩
  obtain ⟨α, β, rfl, rfl, hαβ, hβ, hbd⟩ := hcut
  have HBW := Lib.hid (HB.out.trans (hbd.mono HB.out.size))
  have hev := HEVM.out.below hbd
  have htv := fun p hp => (HTV.out p hp).1.below hbd
  have htz := fun p hp => (HTV.out p hp).2
  have hcn := text_count P htv
  have htx := text_any _ P wc hev htv (by omega)
  clear hbd HB HEVM HTV
  obtain ⟨TX, hTX⟩ : ∃ TX, TX = textOf P := ⟨_, rfl⟩
  have htl := text_len P htv
  rw [← hTX] at hcn htx htl
  rw [hlm] at hcn htl
  have HTXE := Lib.hid hTX
  have HTX := Lib.hid htx
  have HEV := Lib.hid hev
  have HTV := Lib.hid htv
  have HTZ := Lib.hid htz
  have HCN := Lib.hid hcn
  have htl2 : TX.length ≤ 2000000 := by omega
  clear hTX htx hev htv htz hcn htl ea eb ka kb i3 i4
  unfold sv at *
  go_wp2_with (go_at_call 10; refine HTX.out.mono ?_; rintro e w5 ⟨rfl, hb5⟩; have HB5 := Lib.hid hb5; clear hb5)
  go_loopw [12, 13] (fun c b wr => ∃ (k : Nat), b = .int .i64 (k : Int) ∧ k ≤ TX.length ∧ c = .int .i64 (((TX.take k).count 10 : Nat) : Int) ∧ Below w5.heap.size w5 wr) (fun _ b _ => match b with | .int _ i => TX.length - i.toNat | _ => 0)
  case atStart => exact ⟨0, rfl, Nat.zero_le _, rfl, Below.refl _ _⟩
  case round =>
    obtain ⟨k, rfl, hk, rfl, hBr⟩ := hrel
    by_cases hend : k = TX.length
    · have b1 : ¬ ((k : Int) < (TX.length : Int)) := by omega
      have hc2 : ((TX.take k).count 10) = m := by rw [hend, List.take_length]; exact HCN.out
      rw [hc2]
      have hevw := HEV.out
      have hBr0 := hBr
      have HBR := Lib.hid (HB5.out.trans (hBr.mono HB5.out.size))
      clear hc2 hend hk HTX HCN hBr
      have hbw : Below wc.heap.size wc wr := HB5.out.trans (hBr0.mono HB5.out.size)
      have hevr := hevw.below hbw
      have htvr : ∀ W, Below wr.heap.size wr W → ∀ p, p ∈ P → TelV W p := fun W hW p hp => ((HTV.out p hp).below hbw).below hW
      have hcnt : cnt (P.map Prod.fst) ≤ m := by have := cnt_le (P.map Prod.fst); rw [List.length_map, hlm] at this; exact this
      have hdl := fun (W : World) (hW : Below wr.heap.size wr W) => deals_any _ (P.map Prod.fst) W (hevr.below hW) HNM.out (by rw [List.length_map]; omega) HOKM.out (fun e he => by
        obtain ⟨p, hp, rfl⟩ := List.mem_map.1 he
        exact ⟨⟨p.2, (htvr W hW p hp).2.2⟩, HTZ.out p hp⟩)
      have h1 : Evs wr (.slice av α cv) ((P.take α).map Prod.fst) := by rw [List.map_take]; exact hevr.take α (by omega)
      have ht1 := fun (W : World) (hW : Below wr.heap.size wr W) => text_any _ (P.take α) W (h1.below hW) (fun p hp => htvr W hW p (List.mem_of_mem_take hp)) (by rw [List.length_take]; omega)
      have h2b : Evs wr (.slice av β cv) ((P.take β).map Prod.fst) := by rw [List.map_take]; exact hevr.take β (by omega)
      have hpp : textOf P = textOf (P.take α) ++ textOf ((P.take β).drop α) ++ textOf (P.drop β) := by
        have e1 : P.take α ++ (P.take β).drop α = P.take β := by
          have := List.take_append_drop α (P.take β)
          rw [List.take_take, Nat.min_eq_left hαβ] at this
          exact this
        rw [← text_app, e1, ← text_app, List.take_append_drop]
      have hTX' := HTXE.out
      rcases HAVF.out with hvn | ⟨g, c, hvs⟩
      · simp only [Value.slice.injEq] at hvn
        obtain ⟨he1, he2, he3⟩ := hvn
        subst he1 he3
        obtain rfl : m = 0 := by omega
        obtain rfl : β = 0 := by omega
        obtain rfl : α = 0 := by omega
        clear he2
        have h2 : Evs wr (.slice none 0 0) (((P.take 0).drop 0).map Prod.fst) := h1
        have h3 : Evs wr (.slice none 0 0) ((P.drop 0).map Prod.fst) := hevr
        have ht2 := fun (W : World) (hW : Below wr.heap.size wr W) => text_any _ ((P.take 0).drop 0) W (h2.below hW) (fun p hp => htvr W hW p (List.mem_of_mem_take (List.mem_of_mem_drop hp))) (by rw [List.length_drop, List.length_take]; omega)
        have ht3 := fun (W : World) (hW : Below wr.heap.size wr W) => text_any _ (P.drop 0) W (h3.below hW) (fun p hp => htvr W hW p (List.mem_of_mem_drop hp)) (by rw [List.length_drop]; omega)
        obtain ⟨T1, hT1⟩ : ∃ T, T = textOf (P.take 0) := ⟨_, rfl⟩
        obtain ⟨T2, hT2⟩ : ∃ T, T = textOf ((P.take 0).drop 0) := ⟨_, rfl⟩
        obtain ⟨T3, hT3⟩ : ∃ T, T = textOf (P.drop 0) := ⟨_, rfl⟩
        rw [← hTX', ← hT1, ← hT2, ← hT3] at hpp
        rw [← hT1] at ht1
        rw [← hT2] at ht2
        rw [← hT3] at ht3
        unfold sv at ht1 ht2 ht3
        have hl3 : T1.length + T2.length + T3.length ≤ 2000000 := by have hh := htl2; rw [hpp, List.length_append, List.length_append] at hh; omega
        have z1 : ¬ 9223372036854775807 < T1.length + T2.length := by omega
        have z2 : ¬ 9223372036854775807 < T1.length + T2.length + T3.length := by omega
        have heq : (⟨TX.toArray⟩ : ByteArray) = ⟨T1.toArray⟩ ++ ⟨T2.toArray⟩ ++ ⟨T3.toArray⟩ := by rw [hpp]; apply ByteArray.ext; simp
        have z3 : ((⟨TX.toArray⟩ : ByteArray) == ⟨T1.toArray⟩ ++ ⟨T2.toArray⟩ ++ ⟨T3.toArray⟩) = true := by rw [← heq]; first | (simp; done) | exact beq_self_eq_true _ | (show (TX.toArray == TX.toArray) = true; exact beq_self_eq_true _)
        have z4 : decide ((⟨TX.toArray⟩ : ByteArray) = ⟨T1.toArray⟩ ++ ⟨T2.toArray⟩ ++ ⟨T3.toArray⟩) = true := by simpa using heq
        have z5 : (TX == ((⟨T1.toArray⟩ : ByteArray) ++ ⟨T2.toArray⟩ ++ ⟨T3.toArray⟩).toList) = true := by rw [← heq]; first | (simp [go_sem]; done) | (go_simp; done) | (rw [ByteArray.toList_eq]; simp)
        have HT1 := Lib.hid ht1
        have HT2 := Lib.hid ht2
        have HT3 := Lib.hid ht3
        have HDL := Lib.hid hdl
        have y1 : (0 : Int) ≤ ((0 : Nat) : Int) := by omega
        have y2 : ((0 : Nat) : Int) ≤ ((0 : Nat) : Int) := by omega
        have y3 : ((0 : Nat) : Int) ≤ ((0 : Nat) : Int) := by omega
        have y4 : ((0 : Nat) : Int) ≤ ((0 : Nat) : Int) := by omega
        have y5 : ((0 : Nat) : Int) ≤ ((0 : Nat) : Int) := by omega
        have y6 : ((0 : Nat) : Int) ≤ ((0 : Nat) : Int) := by omega
        have y7 : ((cnt (P.map Prod.fst) : Nat) : Int) ≤ ((0 : Nat) : Int) := by omega
        generalize cnt (P.map Prod.fst) = CN at *
        obtain rfl : CN = 0 := by omega
        clear ht1 ht2 ht3 hdl hpp hT1 hT2 hT3 h1 h2b hevr hevw htvr hbw heq hBr0 hTX' HTXE HEV HTV HTZ HNM HOKM hlm
        clear h2 h3
        go_upto_region 16 with fail
        refine wp_region_held_drew (S := (fun W => Below wr.heap.size wr W)) (by kernel_rfl) ?_ (fun hHeld => ?_)
        · (try dsimp only); first | exact Below.refl _ _ | exact (Below.refl _ _).drew
        refine wpAnyH_take (i := 0) (v := ?_) rfl (by kernel_rfl) (by kernel_rfl) (by kernel_rfl) (fun _ _ _ h => h) (Or.inl ⟨by rfl, ?_⟩) hHeld ?_
        rotate_left
        · (intro w hSw; (try dsimp only at hSw); go_simp; (try with_reducible rfl))
        (try simp only [List.getElem_toArray, List.getElem_cons_succ, List.getElem_cons_zero, Act.put, List.setIfInBounds_toArray, List.set_cons_zero, List.set_cons_succ])
        refine wpAnyH_take (i := 1) (v := ?_) rfl (by kernel_rfl) (by kernel_rfl) (by kernel_rfl) (fun _ _ _ h => h) (Or.inl ⟨by rfl, ?_⟩) hHeld ?_
        rotate_left
        · (intro w hSw; (try dsimp only at hSw); go_simp; (try with_reducible rfl))
        (try simp only [List.getElem_toArray, List.getElem_cons_succ, List.getElem_cons_zero, Act.put, List.setIfInBounds_toArray, List.set_cons_zero, List.set_cons_succ])
        refine wpAnyH_take (i := 2) (v := ?_) rfl (by kernel_rfl) (by kernel_rfl) (by kernel_rfl) (fun _ _ _ h => h) (Or.inl ⟨by rfl, ?_⟩) hHeld ?_
        rotate_left
        · (intro w hSw; (try dsimp only at hSw); go_simp; (try with_reducible rfl))
        (try simp only [List.getElem_toArray, List.getElem_cons_succ, List.getElem_cons_zero, Act.put, List.setIfInBounds_toArray, List.set_cons_zero, List.set_cons_succ])
        refine wpAnyH_take (i := 3) (v := ?_) rfl (by kernel_rfl) (by kernel_rfl) (by kernel_rfl) (fun _ _ _ h => h) (Or.inl ⟨by rfl, ?_⟩) hHeld ?_
        rotate_left
        · (intro w hSw; (try dsimp only at hSw); go_simp; (try with_reducible rfl))
        (try simp only [List.getElem_toArray, List.getElem_cons_succ, List.getElem_cons_zero, Act.put, List.setIfInBounds_toArray, List.set_cons_zero, List.set_cons_succ])
        refine wpAnyH_take (i := 4) (v := ?_) rfl (by kernel_rfl) (by kernel_rfl) (by kernel_rfl) (fun _ _ _ h => h) (Or.inl ⟨by rfl, ?_⟩) hHeld ?_
        rotate_left
        · (intro w hSw; (try dsimp only at hSw); go_simp; (try with_reducible rfl))
        (try simp only [List.getElem_toArray, List.getElem_cons_succ, List.getElem_cons_zero, Act.put, List.setIfInBounds_toArray, List.set_cons_zero, List.set_cons_succ])
        refine wpAnyH_take (i := 5) (v := ?_) rfl (by kernel_rfl) (by kernel_rfl) (by kernel_rfl) (fun _ _ _ h => h) (Or.inl ⟨by rfl, ?_⟩) hHeld ?_
        rotate_left
        · (intro w hSw; (try dsimp only at hSw); go_simp; (try with_reducible rfl))
        (try simp only [List.getElem_toArray, List.getElem_cons_succ, List.getElem_cons_zero, Act.put, List.setIfInBounds_toArray, List.set_cons_zero, List.set_cons_succ])
        refine wpAnyH_take (i := 6) (v := ?_) rfl (by kernel_rfl) (by kernel_rfl) (by kernel_rfl) (fun _ _ _ h => h) (Or.inl ⟨by rfl, ?_⟩) hHeld ?_
        rotate_left
        · (intro w hSw; (try dsimp only at hSw); go_simp; (try with_reducible rfl))
        (try simp only [List.getElem_toArray, List.getElem_cons_succ, List.getElem_cons_zero, Act.put, List.setIfInBounds_toArray, List.set_cons_zero, List.set_cons_succ])
        refine wpAnyH_take (i := 7) (v := ?_) rfl (by kernel_rfl) (by kernel_rfl) (by kernel_rfl) (fun _ _ _ h => h) (Or.inl ⟨by rfl, ?_⟩) hHeld ?_
        rotate_left
        · (intro w hSw; (try dsimp only at hSw); go_simp; (try with_reducible rfl))
        (try simp only [List.getElem_toArray, List.getElem_cons_succ, List.getElem_cons_zero, Act.put, List.setIfInBounds_toArray, List.set_cons_zero, List.set_cons_succ])
        refine wpAnyH_take (i := 9) (v := ?_) rfl (by kernel_rfl) (by kernel_rfl) (by kernel_rfl) (fun _ _ _ h => h) (Or.inl ⟨by rfl, ?_⟩) hHeld ?_
        rotate_left
        · (intro w hSw; (try dsimp only at hSw); go_simp; (try with_reducible rfl))
        (try simp only [List.getElem_toArray, List.getElem_cons_succ, List.getElem_cons_zero, Act.put, List.setIfInBounds_toArray, List.set_cons_zero, List.set_cons_succ])
        refine wpAnyH_take (i := 10) (v := ?_) rfl (by kernel_rfl) (by kernel_rfl) (by kernel_rfl) (fun _ _ _ h => h) (Or.inl ⟨by rfl, ?_⟩) hHeld ?_
        rotate_left
        · (intro w hSw; (try dsimp only at hSw); go_simp; (try with_reducible rfl))
        (try simp only [List.getElem_toArray, List.getElem_cons_succ, List.getElem_cons_zero, Act.put, List.setIfInBounds_toArray, List.set_cons_zero, List.set_cons_succ])
        refine wpAnyH_take (i := 11) (v := ?_) rfl (by kernel_rfl) (by kernel_rfl) (by kernel_rfl) (fun _ _ _ h => h) (Or.inl ⟨by rfl, ?_⟩) hHeld ?_
        rotate_left
        · (intro w hSw; (try dsimp only at hSw); go_simp; (try with_reducible rfl))
        (try simp only [List.getElem_toArray, List.getElem_cons_succ, List.getElem_cons_zero, Act.put, List.setIfInBounds_toArray, List.set_cons_zero, List.set_cons_succ])
        refine wpAnyH_take (i := 12) (v := ?_) rfl (by kernel_rfl) (by kernel_rfl) (by kernel_rfl) (fun _ _ _ h => h) (Or.inl ⟨by rfl, ?_⟩) hHeld ?_
        rotate_left
        · (intro w hSw; (try dsimp only at hSw); go_simp; (try with_reducible rfl))
        (try simp only [List.getElem_toArray, List.getElem_cons_succ, List.getElem_cons_zero, Act.put, List.setIfInBounds_toArray, List.set_cons_zero, List.set_cons_succ])
        refine wpAnyH_take (i := 15) (v := ?_) rfl (by kernel_rfl) (by kernel_rfl) (by kernel_rfl) (fun _ _ _ h => h) (Or.inl ⟨by rfl, ?_⟩) hHeld ?_
        rotate_left
        · (intro w hSw; (try dsimp only at hSw); go_simp; (try with_reducible rfl))
        (try simp only [List.getElem_toArray, List.getElem_cons_succ, List.getElem_cons_zero, Act.put, List.setIfInBounds_toArray, List.set_cons_zero, List.set_cons_succ])
        refine wpAnyH_take (i := 16) (v := ?_) rfl (by kernel_rfl) (by kernel_rfl) (by kernel_rfl) (fun _ _ _ h => h) (Or.inl ⟨by rfl, ?_⟩) hHeld ?_
        rotate_left
        · (intro w hSw; (try dsimp only at hSw); go_simp; (try with_reducible rfl))
        (try simp only [List.getElem_toArray, List.getElem_cons_succ, List.getElem_cons_zero, Act.put, List.setIfInBounds_toArray, List.set_cons_zero, List.set_cons_succ])
        refine wpAnyH_take (i := 17) (v := ?_) rfl (by kernel_rfl) (by kernel_rfl) (by kernel_rfl) (fun _ _ _ h => h) (Or.inl ⟨by rfl, ?_⟩) hHeld ?_
        rotate_left
        · (intro w hSw; (try dsimp only at hSw); go_simp; (try with_reducible rfl))
        (try simp only [List.getElem_toArray, List.getElem_cons_succ, List.getElem_cons_zero, Act.put, List.setIfInBounds_toArray, List.set_cons_zero, List.set_cons_succ])
        refine wpAnyH_ready (rs := [8]) (by kernel_rfl) (by simp) ?_
        refine AllReadyH.cons (o := _) rfl (fun K hK => ?_) ?_
        rotate_left
        · exact AllReadyH.nil
        go_simp
        (go_at_call 10; refine (HT1.out _ hHeld).mono ?_; rintro e w6 ⟨rfl, hb6⟩)
        refine hK.out _ _ ?_ (fun hHeld => ?_)
        · (try dsimp only); first | exact Below.trans hHeld (hb6.mono (Below.size hHeld)) | exact hHeld
        clear hK K
        (try simp only [List.getElem_toArray, List.getElem_cons_succ, List.getElem_cons_zero, Act.put, List.setIfInBounds_toArray, List.set_cons_zero, List.set_cons_succ])
        refine wpAnyH_ready (rs := [13]) (by kernel_rfl) (by simp) ?_
        refine AllReadyH.cons (o := _) rfl (fun K hK => ?_) ?_
        rotate_left
        · exact AllReadyH.nil
        go_simp
        (go_at_call 10; refine (HT2.out _ hHeld).mono ?_; rintro e w6 ⟨rfl, hb6⟩)
        refine hK.out _ _ ?_ (fun hHeld => ?_)
        · (try dsimp only); first | exact Below.trans hHeld (hb6.mono (Below.size hHeld)) | exact hHeld
        clear hK K
        (try simp only [List.getElem_toArray, List.getElem_cons_succ, List.getElem_cons_zero, Act.put, List.setIfInBounds_toArray, List.set_cons_zero, List.set_cons_succ])
        refine wpAnyH_take (i := 14) (v := ?_) rfl (by kernel_rfl) (by kernel_rfl) (by kernel_rfl) (fun _ _ _ h => h) (Or.inl ⟨by rfl, ?_⟩) hHeld ?_
        rotate_left
        · (intro w hSw; (try dsimp only at hSw); go_simp; (try with_reducible rfl))
        (try simp only [List.getElem_toArray, List.getElem_cons_succ, List.getElem_cons_zero, Act.put, List.setIfInBounds_toArray, List.set_cons_zero, List.set_cons_succ])
        refine wpAnyH_ready (rs := [18]) (by kernel_rfl) (by simp) ?_
        refine AllReadyH.cons (o := _) rfl (fun K hK => ?_) ?_
        rotate_left
        · exact AllReadyH.nil
        go_simp
        (go_at_call 10; refine (HT3.out _ hHeld).mono ?_; rintro e w6 ⟨rfl, hb6⟩)
        refine hK.out _ _ ?_ (fun hHeld => ?_)
        · (try dsimp only); first | exact Below.trans hHeld (hb6.mono (Below.size hHeld)) | exact hHeld
        clear hK K
        (try simp only [List.getElem_toArray, List.getElem_cons_succ, List.getElem_cons_zero, Act.put, List.setIfInBounds_toArray, List.set_cons_zero, List.set_cons_succ])
        refine wpAnyH_take (i := 19) (v := ?_) rfl (by kernel_rfl) (by kernel_rfl) (by kernel_rfl) (fun _ _ _ h => h) (Or.inl ⟨by rfl, ?_⟩) hHeld ?_
        rotate_left
        · (intro w hSw; (try dsimp only at hSw); go_simp; (try with_reducible rfl))
        (try simp only [List.getElem_toArray, List.getElem_cons_succ, List.getElem_cons_zero, Act.put, List.setIfInBounds_toArray, List.set_cons_zero, List.set_cons_succ])
        refine wpAnyH_take (i := 20) (v := ?_) rfl (by kernel_rfl) (by kernel_rfl) (by kernel_rfl) (fun _ _ _ h => h) (Or.inl ⟨by rfl, ?_⟩) hHeld ?_
        rotate_left
        · (intro w hSw; (try dsimp only at hSw); go_simp; (try with_reducible rfl))
        (try simp only [List.getElem_toArray, List.getElem_cons_succ, List.getElem_cons_zero, Act.put, List.setIfInBounds_toArray, List.set_cons_zero, List.set_cons_succ])
        refine wpAnyH_take (i := 21) (v := ?_) rfl (by kernel_rfl) (by kernel_rfl) (by kernel_rfl) (fun _ _ _ h => h) (Or.inl ⟨by rfl, ?_⟩) hHeld ?_
        rotate_left
        · (intro w hSw; (try dsimp only at hSw); go_simp; (try with_reducible rfl))
        (try simp only [List.getElem_toArray, List.getElem_cons_succ, List.getElem_cons_zero, Act.put, List.setIfInBounds_toArray, List.set_cons_zero, List.set_cons_succ])
        refine wpAnyH_take (i := 22) (v := ?_) rfl (by kernel_rfl) (by kernel_rfl) (by kernel_rfl) (fun _ _ _ h => h) (Or.inl ⟨by rfl, ?_⟩) hHeld ?_
        rotate_left
        · (intro w hSw; (try dsimp only at hSw); go_simp; (try with_reducible rfl))
        (try simp only [List.getElem_toArray, List.getElem_cons_succ, List.getElem_cons_zero, Act.put, List.setIfInBounds_toArray, List.set_cons_zero, List.set_cons_succ])
        refine wpAnyH_take (i := 23) (v := ?_) rfl (by kernel_rfl) (by kernel_rfl) (by kernel_rfl) (fun _ _ _ h => h) (Or.inl ⟨by rfl, ?_⟩) hHeld ?_
        rotate_left
        · (intro w hSw; (try dsimp only at hSw); go_simp; (try with_reducible rfl))
        (try simp only [List.getElem_toArray, List.getElem_cons_succ, List.getElem_cons_zero, Act.put, List.setIfInBounds_toArray, List.set_cons_zero, List.set_cons_succ])
        refine wpAnyH_take (i := 26) (v := ?_) rfl (by kernel_rfl) (by kernel_rfl) (by kernel_rfl) (fun _ _ _ h => h) (Or.inl ⟨by rfl, ?_⟩) hHeld ?_
        rotate_left
        · (intro w hSw; (try dsimp only at hSw); go_simp; (try with_reducible rfl))
        (try simp only [List.getElem_toArray, List.getElem_cons_succ, List.getElem_cons_zero, Act.put, List.setIfInBounds_toArray, List.set_cons_zero, List.set_cons_succ])
        refine wpAnyH_ready (rs := [24]) (by kernel_rfl) (by simp) ?_
        refine AllReadyH.cons (o := _) rfl (fun K hK => ?_) ?_
        rotate_left
        · exact AllReadyH.nil
        go_simp
        (go_at_call 11; refine (HDL.out _ hHeld).mono ?_; rintro e w6 ⟨ad, cd, rfl, hb6⟩)
        refine hK.out _ _ ?_ (fun hHeld => ?_)
        · (try dsimp only); first | exact Below.trans hHeld (hb6.mono (Below.size hHeld)) | exact hHeld
        clear hK K
        (try simp only [List.getElem_toArray, List.getElem_cons_succ, List.getElem_cons_zero, Act.put, List.setIfInBounds_toArray, List.set_cons_zero, List.set_cons_succ])
        refine wpAnyH_ready (rs := [25]) (by kernel_rfl) (by simp) ?_
        refine AllReadyH.cons (o := _) rfl (fun K hK => ?_) ?_
        rotate_left
        · exact AllReadyH.nil
        go_simp
        skip
        refine hK.out _ _ ?_ (fun hHeld => ?_)
        · (try dsimp only); first | exact Below.trans hHeld (hb6.mono (Below.size hHeld)) | exact hHeld
        clear hK K
        (try simp only [List.getElem_toArray, List.getElem_cons_succ, List.getElem_cons_zero, Act.put, List.setIfInBounds_toArray, List.set_cons_zero, List.set_cons_succ])
        refine wpAnyH_take (i := 27) (v := ?_) rfl (by kernel_rfl) (by kernel_rfl) (by kernel_rfl) (fun _ _ _ h => h) (Or.inl ⟨by rfl, ?_⟩) hHeld ?_
        rotate_left
        · (intro w hSw; (try dsimp only at hSw); go_simp; (try with_reducible rfl))
        (try simp only [List.getElem_toArray, List.getElem_cons_succ, List.getElem_cons_zero, Act.put, List.setIfInBounds_toArray, List.set_cons_zero, List.set_cons_succ])
        refine wpAnyH_take (i := 28) (v := ?_) rfl (by kernel_rfl) (by kernel_rfl) (by kernel_rfl) (fun _ _ _ h => h) (Or.inl ⟨by rfl, ?_⟩) hHeld ?_
        rotate_left
        · (intro w hSw; (try dsimp only at hSw); go_simp; (try with_reducible rfl))
        (try simp only [List.getElem_toArray, List.getElem_cons_succ, List.getElem_cons_zero, Act.put, List.setIfInBounds_toArray, List.set_cons_zero, List.set_cons_succ])
        refine wpAnyH_take (i := 29) (v := ?_) rfl (by kernel_rfl) (by kernel_rfl) (by kernel_rfl) (fun _ _ _ h => h) (Or.inl ⟨by rfl, ?_⟩) hHeld ?_
        rotate_left
        · (intro w hSw; (try dsimp only at hSw); go_simp; (try with_reducible rfl))
        (try simp only [List.getElem_toArray, List.getElem_cons_succ, List.getElem_cons_zero, Act.put, List.setIfInBounds_toArray, List.set_cons_zero, List.set_cons_succ])
        refine wpAnyH_ready (rs := [30]) (by kernel_rfl) (by simp) ?_
        refine AllReadyH.cons (o := _) rfl (fun K hK => ?_) ?_
        rotate_left
        · exact AllReadyH.nil
        go_simp
        (go_at_call 8; refine (HA.out _).mono ?_; rintro e w6 ⟨rfl, hb6⟩)
        refine hK.out _ _ ?_ (fun hHeld => ?_)
        · (try dsimp only); first | exact Below.trans hHeld (hb6.mono (Below.size hHeld)) | exact hHeld
        clear hK K
        (try simp only [List.getElem_toArray, List.getElem_cons_succ, List.getElem_cons_zero, Act.put, List.setIfInBounds_toArray, List.set_cons_zero, List.set_cons_succ])
        refine wpAnyH_take (i := 31) (v := ?_) rfl (by kernel_rfl) (by kernel_rfl) (by kernel_rfl) (fun _ _ _ h => h) (Or.inl ⟨by rfl, ?_⟩) hHeld ?_
        rotate_left
        · (intro w hSw; (try dsimp only at hSw); go_simp; (try with_reducible rfl))
        (try simp only [List.getElem_toArray, List.getElem_cons_succ, List.getElem_cons_zero, Act.put, List.setIfInBounds_toArray, List.set_cons_zero, List.set_cons_succ])
        refine wpAnyH_take (i := 32) (v := ?_) rfl (by kernel_rfl) (by kernel_rfl) (by kernel_rfl) (fun _ _ _ h => h) (Or.inl ⟨by rfl, ?_⟩) hHeld ?_
        rotate_left
        · (intro w hSw; (try dsimp only at hSw); go_simp; (try with_reducible rfl))
        (try simp only [List.getElem_toArray, List.getElem_cons_succ, List.getElem_cons_zero, Act.put, List.setIfInBounds_toArray, List.set_cons_zero, List.set_cons_succ])
        refine wpAnyH_done (by kernel_rfl) ?_ _
        unfold Exit.then
        dsimp only
        have HZZ := Lib.hid hHeld
        clear hHeld
        go_wp2_with fail
        go_ret
        exact ⟨rfl, HBW.out.trans ((HBR.out.trans (HZZ.out.mono HBR.out.size)).mono HBW.out.size)⟩
      · simp only [Value.slice.injEq] at hvs
        obtain ⟨he1, he2, he3⟩ := hvs
        subst he1 he3
        clear he2
        have h2 := h2b.drop α hαβ
        have h3 := hevr.drop β hβ
        rw [Nat.zero_add] at h2 h3
        obtain ⟨A2, hA2⟩ : ∃ A, (if cv = α then some (⟨g, 0, none⟩ : Addr) else some ⟨g, α * 12, none⟩) = A := ⟨_, rfl⟩
        obtain ⟨A3, hA3⟩ : ∃ A, (if cv = β then some (⟨g, 0, none⟩ : Addr) else some ⟨g, β * 12, none⟩) = A := ⟨_, rfl⟩
        rw [hA2] at h2
        rw [hA3] at h3
        rw [← List.map_drop] at h2 h3
        have ht2 := fun (W : World) (hW : Below wr.heap.size wr W) => text_any _ ((P.take β).drop α) W (h2.below hW) (fun p hp => htvr W hW p (List.mem_of_mem_take (List.mem_of_mem_drop hp))) (by rw [List.length_drop, List.length_take]; omega)
        have ht3 := fun (W : World) (hW : Below wr.heap.size wr W) => text_any _ (P.drop β) W (h3.below hW) (fun p hp => htvr W hW p (List.mem_of_mem_drop hp)) (by rw [List.length_drop]; omega)
        obtain ⟨T1, hT1⟩ : ∃ T, T = textOf (P.take α) := ⟨_, rfl⟩
        obtain ⟨T2, hT2⟩ : ∃ T, T = textOf ((P.take β).drop α) := ⟨_, rfl⟩
        obtain ⟨T3, hT3⟩ : ∃ T, T = textOf (P.drop β) := ⟨_, rfl⟩
        rw [← hTX', ← hT1, ← hT2, ← hT3] at hpp
        rw [← hT1] at ht1
        rw [← hT2] at ht2
        rw [← hT3] at ht3
        unfold sv at ht1 ht2 ht3
        have hl3 : T1.length + T2.length + T3.length ≤ 2000000 := by have hh := htl2; rw [hpp, List.length_append, List.length_append] at hh; omega
        have z1 : ¬ 9223372036854775807 < T1.length + T2.length := by omega
        have z2 : ¬ 9223372036854775807 < T1.length + T2.length + T3.length := by omega
        have heq : (⟨TX.toArray⟩ : ByteArray) = ⟨T1.toArray⟩ ++ ⟨T2.toArray⟩ ++ ⟨T3.toArray⟩ := by rw [hpp]; apply ByteArray.ext; simp
        have z3 : ((⟨TX.toArray⟩ : ByteArray) == ⟨T1.toArray⟩ ++ ⟨T2.toArray⟩ ++ ⟨T3.toArray⟩) = true := by rw [← heq]; first | (simp; done) | exact beq_self_eq_true _ | (show (TX.toArray == TX.toArray) = true; exact beq_self_eq_true _)
        have z4 : decide ((⟨TX.toArray⟩ : ByteArray) = ⟨T1.toArray⟩ ++ ⟨T2.toArray⟩ ++ ⟨T3.toArray⟩) = true := by simpa using heq
        have z5 : (TX == ((⟨T1.toArray⟩ : ByteArray) ++ ⟨T2.toArray⟩ ++ ⟨T3.toArray⟩).toList) = true := by rw [← heq]; first | (simp [go_sem]; done) | (go_simp; done) | (rw [ByteArray.toList_eq]; simp)
        have HT1 := Lib.hid ht1
        have HT2 := Lib.hid ht2
        have HT3 := Lib.hid ht3
        have HDL := Lib.hid hdl
        have y1 : (0 : Int) ≤ (α : Int) := by omega
        have y2 : (α : Int) ≤ (β : Int) := by omega
        have y3 : (β : Int) ≤ (m : Int) := by omega
        have y4 : (β : Int) ≤ (cv : Int) := by omega
        have y5 : (α : Int) ≤ (cv : Int) := by omega
        have y6 : (m : Int) ≤ (cv : Int) := by omega
        have y7 : ((cnt (P.map Prod.fst) : Nat) : Int) ≤ (m : Int) := by omega
        generalize cnt (P.map Prod.fst) = CN at *
        clear ht1 ht2 ht3 hdl hpp hT1 hT2 hT3 h1 h2b hevr hevw htvr hbw heq hBr0 hTX' HTXE HEV HTV HTZ HNM HOKM hlm
        clear h2 h3
        go_upto_region 16 with fail
        refine wp_region_held_drew (S := (fun W => Below wr.heap.size wr W)) (by kernel_rfl) ?_ (fun hHeld => ?_)
        · (try dsimp only); first | exact Below.refl _ _ | exact (Below.refl _ _).drew
        refine wpAnyH_take (i := 0) (v := ?_) rfl (by kernel_rfl) (by kernel_rfl) (by kernel_rfl) (fun _ _ _ h => h) (Or.inl ⟨by rfl, ?_⟩) hHeld ?_
        rotate_left
        · (intro w hSw; (try dsimp only at hSw); go_simp; (try with_reducible rfl))
        (try simp only [List.getElem_toArray, List.getElem_cons_succ, List.getElem_cons_zero, Act.put, List.setIfInBounds_toArray, List.set_cons_zero, List.set_cons_succ])
        refine wpAnyH_take (i := 1) (v := ?_) rfl (by kernel_rfl) (by kernel_rfl) (by kernel_rfl) (fun _ _ _ h => h) (Or.inl ⟨by rfl, ?_⟩) hHeld ?_
        rotate_left
        · (intro w hSw; (try dsimp only at hSw); go_simp; (try with_reducible rfl))
        (try simp only [List.getElem_toArray, List.getElem_cons_succ, List.getElem_cons_zero, Act.put, List.setIfInBounds_toArray, List.set_cons_zero, List.set_cons_succ])
        refine wpAnyH_take (i := 2) (v := ?_) rfl (by kernel_rfl) (by kernel_rfl) (by kernel_rfl) (fun _ _ _ h => h) (Or.inl ⟨by rfl, ?_⟩) hHeld ?_
        rotate_left
        · (intro w hSw; (try dsimp only at hSw); go_simp; (try with_reducible rfl))
        (try simp only [List.getElem_toArray, List.getElem_cons_succ, List.getElem_cons_zero, Act.put, List.setIfInBounds_toArray, List.set_cons_zero, List.set_cons_succ])
        refine wpAnyH_take (i := 3) (v := ?_) rfl (by kernel_rfl) (by kernel_rfl) (by kernel_rfl) (fun _ _ _ h => h) (Or.inl ⟨by rfl, ?_⟩) hHeld ?_
        rotate_left
        · (intro w hSw; (try dsimp only at hSw); go_simp; (try with_reducible rfl))
        (try simp only [List.getElem_toArray, List.getElem_cons_succ, List.getElem_cons_zero, Act.put, List.setIfInBounds_toArray, List.set_cons_zero, List.set_cons_succ])
        refine wpAnyH_take (i := 4) (v := ?_) rfl (by kernel_rfl) (by kernel_rfl) (by kernel_rfl) (fun _ _ _ h => h) (Or.inl ⟨by rfl, ?_⟩) hHeld ?_
        rotate_left
        · (intro w hSw; (try dsimp only at hSw); go_simp; (try with_reducible rfl))
        (try simp only [List.getElem_toArray, List.getElem_cons_succ, List.getElem_cons_zero, Act.put, List.setIfInBounds_toArray, List.set_cons_zero, List.set_cons_succ])
        refine wpAnyH_take (i := 5) (v := ?_) rfl (by kernel_rfl) (by kernel_rfl) (by kernel_rfl) (fun _ _ _ h => h) (Or.inl ⟨by rfl, ?_⟩) hHeld ?_
        rotate_left
        · (intro w hSw; (try dsimp only at hSw); go_simp; (try with_reducible rfl))
        (try simp only [List.getElem_toArray, List.getElem_cons_succ, List.getElem_cons_zero, Act.put, List.setIfInBounds_toArray, List.set_cons_zero, List.set_cons_succ])
        refine wpAnyH_take (i := 6) (v := ?_) rfl (by kernel_rfl) (by kernel_rfl) (by kernel_rfl) (fun _ _ _ h => h) (Or.inl ⟨by rfl, ?_⟩) hHeld ?_
        rotate_left
        · (intro w hSw; (try dsimp only at hSw); go_simp; (try with_reducible rfl))
        (try simp only [List.getElem_toArray, List.getElem_cons_succ, List.getElem_cons_zero, Act.put, List.setIfInBounds_toArray, List.set_cons_zero, List.set_cons_succ])
        refine wpAnyH_take (i := 7) (v := ?_) rfl (by kernel_rfl) (by kernel_rfl) (by kernel_rfl) (fun _ _ _ h => h) (Or.inl ⟨by rfl, ?_⟩) hHeld ?_
        rotate_left
        · (intro w hSw; (try dsimp only at hSw); go_simp; (try with_reducible rfl))
        (try simp only [List.getElem_toArray, List.getElem_cons_succ, List.getElem_cons_zero, Act.put, List.setIfInBounds_toArray, List.set_cons_zero, List.set_cons_succ])
        refine wpAnyH_take (i := 9) (v := ?_) rfl (by kernel_rfl) (by kernel_rfl) (by kernel_rfl) (fun _ _ _ h => h) (Or.inl ⟨by rfl, ?_⟩) hHeld ?_
        rotate_left
        · (intro w hSw; (try dsimp only at hSw); go_simp; (try with_reducible rfl))
        (try simp only [List.getElem_toArray, List.getElem_cons_succ, List.getElem_cons_zero, Act.put, List.setIfInBounds_toArray, List.set_cons_zero, List.set_cons_succ])
        refine wpAnyH_take (i := 10) (v := ?_) rfl (by kernel_rfl) (by kernel_rfl) (by kernel_rfl) (fun _ _ _ h => h) (Or.inl ⟨by rfl, ?_⟩) hHeld ?_
        rotate_left
        · (intro w hSw; (try dsimp only at hSw); go_simp; (try with_reducible rfl))
        (try simp only [List.getElem_toArray, List.getElem_cons_succ, List.getElem_cons_zero, Act.put, List.setIfInBounds_toArray, List.set_cons_zero, List.set_cons_succ])
        refine wpAnyH_take (i := 11) (v := ?_) rfl (by kernel_rfl) (by kernel_rfl) (by kernel_rfl) (fun _ _ _ h => h) (Or.inl ⟨by rfl, ?_⟩) hHeld ?_
        rotate_left
        · (intro w hSw; (try dsimp only at hSw); go_simp; (try with_reducible rfl))
        (try simp only [List.getElem_toArray, List.getElem_cons_succ, List.getElem_cons_zero, Act.put, List.setIfInBounds_toArray, List.set_cons_zero, List.set_cons_succ])
        refine wpAnyH_take (i := 12) (v := ?_) rfl (by kernel_rfl) (by kernel_rfl) (by kernel_rfl) (fun _ _ _ h => h) (Or.inl ⟨by rfl, ?_⟩) hHeld ?_
        rotate_left
        · (intro w hSw; (try dsimp only at hSw); go_simp; (try with_reducible rfl))
        (try simp only [List.getElem_toArray, List.getElem_cons_succ, List.getElem_cons_zero, Act.put, List.setIfInBounds_toArray, List.set_cons_zero, List.set_cons_succ])
        refine wpAnyH_take (i := 15) (v := ?_) rfl (by kernel_rfl) (by kernel_rfl) (by kernel_rfl) (fun _ _ _ h => h) (Or.inl ⟨by rfl, ?_⟩) hHeld ?_
        rotate_left
        · (intro w hSw; (try dsimp only at hSw); go_simp; (try with_reducible rfl))
        (try simp only [List.getElem_toArray, List.getElem_cons_succ, List.getElem_cons_zero, Act.put, List.setIfInBounds_toArray, List.set_cons_zero, List.set_cons_succ])
        refine wpAnyH_take (i := 16) (v := ?_) rfl (by kernel_rfl) (by kernel_rfl) (by kernel_rfl) (fun _ _ _ h => h) (Or.inl ⟨by rfl, ?_⟩) hHeld ?_
        rotate_left
        · (intro w hSw; (try dsimp only at hSw); go_simp; (try with_reducible rfl))
        (try simp only [List.getElem_toArray, List.getElem_cons_succ, List.getElem_cons_zero, Act.put, List.setIfInBounds_toArray, List.set_cons_zero, List.set_cons_succ])
        refine wpAnyH_take (i := 17) (v := ?_) rfl (by kernel_rfl) (by kernel_rfl) (by kernel_rfl) (fun _ _ _ h => h) (Or.inl ⟨by rfl, ?_⟩) hHeld ?_
        rotate_left
        · (intro w hSw; (try dsimp only at hSw); go_simp; (try with_reducible rfl))
        (try simp only [List.getElem_toArray, List.getElem_cons_succ, List.getElem_cons_zero, Act.put, List.setIfInBounds_toArray, List.set_cons_zero, List.set_cons_succ])
        refine wpAnyH_ready (rs := [8]) (by kernel_rfl) (by simp) ?_
        refine AllReadyH.cons (o := _) rfl (fun K hK => ?_) ?_
        rotate_left
        · exact AllReadyH.nil
        go_simp
        (go_at_call 10; refine (HT1.out _ hHeld).mono ?_; rintro e w6 ⟨rfl, hb6⟩)
        refine hK.out _ _ ?_ (fun hHeld => ?_)
        · (try dsimp only); first | exact Below.trans hHeld (hb6.mono (Below.size hHeld)) | exact hHeld
        clear hK K
        (try simp only [List.getElem_toArray, List.getElem_cons_succ, List.getElem_cons_zero, Act.put, List.setIfInBounds_toArray, List.set_cons_zero, List.set_cons_succ])
        refine wpAnyH_ready (rs := [13]) (by kernel_rfl) (by simp) ?_
        refine AllReadyH.cons (o := _) rfl (fun K hK => ?_) ?_
        rotate_left
        · exact AllReadyH.nil
        go_simp
        (go_at_call 10; refine (HT2.out _ hHeld).mono ?_; rintro e w6 ⟨rfl, hb6⟩)
        refine hK.out _ _ ?_ (fun hHeld => ?_)
        · (try dsimp only); first | exact Below.trans hHeld (hb6.mono (Below.size hHeld)) | exact hHeld
        clear hK K
        (try simp only [List.getElem_toArray, List.getElem_cons_succ, List.getElem_cons_zero, Act.put, List.setIfInBounds_toArray, List.set_cons_zero, List.set_cons_succ])
        refine wpAnyH_take (i := 14) (v := ?_) rfl (by kernel_rfl) (by kernel_rfl) (by kernel_rfl) (fun _ _ _ h => h) (Or.inl ⟨by rfl, ?_⟩) hHeld ?_
        rotate_left
        · (intro w hSw; (try dsimp only at hSw); go_simp; (try with_reducible rfl))
        (try simp only [List.getElem_toArray, List.getElem_cons_succ, List.getElem_cons_zero, Act.put, List.setIfInBounds_toArray, List.set_cons_zero, List.set_cons_succ])
        refine wpAnyH_ready (rs := [18]) (by kernel_rfl) (by simp) ?_
        refine AllReadyH.cons (o := _) rfl (fun K hK => ?_) ?_
        rotate_left
        · exact AllReadyH.nil
        go_simp
        (go_at_call 10; refine (HT3.out _ hHeld).mono ?_; rintro e w6 ⟨rfl, hb6⟩)
        refine hK.out _ _ ?_ (fun hHeld => ?_)
        · (try dsimp only); first | exact Below.trans hHeld (hb6.mono (Below.size hHeld)) | exact hHeld
        clear hK K
        (try simp only [List.getElem_toArray, List.getElem_cons_succ, List.getElem_cons_zero, Act.put, List.setIfInBounds_toArray, List.set_cons_zero, List.set_cons_succ])
        refine wpAnyH_take (i := 19) (v := ?_) rfl (by kernel_rfl) (by kernel_rfl) (by kernel_rfl) (fun _ _ _ h => h) (Or.inl ⟨by rfl, ?_⟩) hHeld ?_
        rotate_left
        · (intro w hSw; (try dsimp only at hSw); go_simp; (try with_reducible rfl))
        (try simp only [List.getElem_toArray, List.getElem_cons_succ, List.getElem_cons_zero, Act.put, List.setIfInBounds_toArray, List.set_cons_zero, List.set_cons_succ])
        refine wpAnyH_take (i := 20) (v := ?_) rfl (by kernel_rfl) (by kernel_rfl) (by kernel_rfl) (fun _ _ _ h => h) (Or.inl ⟨by rfl, ?_⟩) hHeld ?_
        rotate_left
        · (intro w hSw; (try dsimp only at hSw); go_simp; (try with_reducible rfl))
        (try simp only [List.getElem_toArray, List.getElem_cons_succ, List.getElem_cons_zero, Act.put, List.setIfInBounds_toArray, List.set_cons_zero, List.set_cons_succ])
        refine wpAnyH_take (i := 21) (v := ?_) rfl (by kernel_rfl) (by kernel_rfl) (by kernel_rfl) (fun _ _ _ h => h) (Or.inl ⟨by rfl, ?_⟩) hHeld ?_
        rotate_left
        · (intro w hSw; (try dsimp only at hSw); go_simp; (try with_reducible rfl))
        (try simp only [List.getElem_toArray, List.getElem_cons_succ, List.getElem_cons_zero, Act.put, List.setIfInBounds_toArray, List.set_cons_zero, List.set_cons_succ])
        refine wpAnyH_take (i := 22) (v := ?_) rfl (by kernel_rfl) (by kernel_rfl) (by kernel_rfl) (fun _ _ _ h => h) (Or.inl ⟨by rfl, ?_⟩) hHeld ?_
        rotate_left
        · (intro w hSw; (try dsimp only at hSw); go_simp; (try with_reducible rfl))
        (try simp only [List.getElem_toArray, List.getElem_cons_succ, List.getElem_cons_zero, Act.put, List.setIfInBounds_toArray, List.set_cons_zero, List.set_cons_succ])
        refine wpAnyH_take (i := 23) (v := ?_) rfl (by kernel_rfl) (by kernel_rfl) (by kernel_rfl) (fun _ _ _ h => h) (Or.inl ⟨by rfl, ?_⟩) hHeld ?_
        rotate_left
        · (intro w hSw; (try dsimp only at hSw); go_simp; (try with_reducible rfl))
        (try simp only [List.getElem_toArray, List.getElem_cons_succ, List.getElem_cons_zero, Act.put, List.setIfInBounds_toArray, List.set_cons_zero, List.set_cons_succ])
        refine wpAnyH_take (i := 26) (v := ?_) rfl (by kernel_rfl) (by kernel_rfl) (by kernel_rfl) (fun _ _ _ h => h) (Or.inl ⟨by rfl, ?_⟩) hHeld ?_
        rotate_left
        · (intro w hSw; (try dsimp only at hSw); go_simp; (try with_reducible rfl))
        (try simp only [List.getElem_toArray, List.getElem_cons_succ, List.getElem_cons_zero, Act.put, List.setIfInBounds_toArray, List.set_cons_zero, List.set_cons_succ])
        refine wpAnyH_ready (rs := [24]) (by kernel_rfl) (by simp) ?_
        refine AllReadyH.cons (o := _) rfl (fun K hK => ?_) ?_
        rotate_left
        · exact AllReadyH.nil
        go_simp
        (go_at_call 11; refine (HDL.out _ hHeld).mono ?_; rintro e w6 ⟨ad, cd, rfl, hb6⟩)
        refine hK.out _ _ ?_ (fun hHeld => ?_)
        · (try dsimp only); first | exact Below.trans hHeld (hb6.mono (Below.size hHeld)) | exact hHeld
        clear hK K
        (try simp only [List.getElem_toArray, List.getElem_cons_succ, List.getElem_cons_zero, Act.put, List.setIfInBounds_toArray, List.set_cons_zero, List.set_cons_succ])
        refine wpAnyH_ready (rs := [25]) (by kernel_rfl) (by simp) ?_
        refine AllReadyH.cons (o := _) rfl (fun K hK => ?_) ?_
        rotate_left
        · exact AllReadyH.nil
        go_simp
        skip
        refine hK.out _ _ ?_ (fun hHeld => ?_)
        · (try dsimp only); first | exact Below.trans hHeld (hb6.mono (Below.size hHeld)) | exact hHeld
        clear hK K
        (try simp only [List.getElem_toArray, List.getElem_cons_succ, List.getElem_cons_zero, Act.put, List.setIfInBounds_toArray, List.set_cons_zero, List.set_cons_succ])
        refine wpAnyH_take (i := 27) (v := ?_) rfl (by kernel_rfl) (by kernel_rfl) (by kernel_rfl) (fun _ _ _ h => h) (Or.inl ⟨by rfl, ?_⟩) hHeld ?_
        rotate_left
        · (intro w hSw; (try dsimp only at hSw); go_simp; (try with_reducible rfl))
        (try simp only [List.getElem_toArray, List.getElem_cons_succ, List.getElem_cons_zero, Act.put, List.setIfInBounds_toArray, List.set_cons_zero, List.set_cons_succ])
        refine wpAnyH_take (i := 28) (v := ?_) rfl (by kernel_rfl) (by kernel_rfl) (by kernel_rfl) (fun _ _ _ h => h) (Or.inl ⟨by rfl, ?_⟩) hHeld ?_
        rotate_left
        · (intro w hSw; (try dsimp only at hSw); go_simp; (try with_reducible rfl))
        (try simp only [List.getElem_toArray, List.getElem_cons_succ, List.getElem_cons_zero, Act.put, List.setIfInBounds_toArray, List.set_cons_zero, List.set_cons_succ])
        refine wpAnyH_take (i := 29) (v := ?_) rfl (by kernel_rfl) (by kernel_rfl) (by kernel_rfl) (fun _ _ _ h => h) (Or.inl ⟨by rfl, ?_⟩) hHeld ?_
        rotate_left
        · (intro w hSw; (try dsimp only at hSw); go_simp; (try with_reducible rfl))
        (try simp only [List.getElem_toArray, List.getElem_cons_succ, List.getElem_cons_zero, Act.put, List.setIfInBounds_toArray, List.set_cons_zero, List.set_cons_succ])
        refine wpAnyH_ready (rs := [30]) (by kernel_rfl) (by simp) ?_
        refine AllReadyH.cons (o := _) rfl (fun K hK => ?_) ?_
        rotate_left
        · exact AllReadyH.nil
        go_simp
        (go_at_call 8; refine (HA.out _).mono ?_; rintro e w6 ⟨rfl, hb6⟩)
        refine hK.out _ _ ?_ (fun hHeld => ?_)
        · (try dsimp only); first | exact Below.trans hHeld (hb6.mono (Below.size hHeld)) | exact hHeld
        clear hK K
        (try simp only [List.getElem_toArray, List.getElem_cons_succ, List.getElem_cons_zero, Act.put, List.setIfInBounds_toArray, List.set_cons_zero, List.set_cons_succ])
        refine wpAnyH_take (i := 31) (v := ?_) rfl (by kernel_rfl) (by kernel_rfl) (by kernel_rfl) (fun _ _ _ h => h) (Or.inl ⟨by rfl, ?_⟩) hHeld ?_
        rotate_left
        · (intro w hSw; (try dsimp only at hSw); go_simp; (try with_reducible rfl))
        (try simp only [List.getElem_toArray, List.getElem_cons_succ, List.getElem_cons_zero, Act.put, List.setIfInBounds_toArray, List.set_cons_zero, List.set_cons_succ])
        refine wpAnyH_take (i := 32) (v := ?_) rfl (by kernel_rfl) (by kernel_rfl) (by kernel_rfl) (fun _ _ _ h => h) (Or.inl ⟨by rfl, ?_⟩) hHeld ?_
        rotate_left
        · (intro w hSw; (try dsimp only at hSw); go_simp; (try with_reducible rfl))
        (try simp only [List.getElem_toArray, List.getElem_cons_succ, List.getElem_cons_zero, Act.put, List.setIfInBounds_toArray, List.set_cons_zero, List.set_cons_succ])
        refine wpAnyH_done (by kernel_rfl) ?_ _
        unfold Exit.then
        dsimp only
        have HZZ := Lib.hid hHeld
        clear hHeld
        go_wp2_with fail
        go_ret
        exact ⟨rfl, HBW.out.trans ((HBR.out.trans (HZZ.out.mono HBR.out.size)).mono HBW.out.size)⟩
    · have hlt : k < TX.length := by omega
      have b1 : (k : Int) < (TX.length : Int) := by omega
      have b2 : (0 : Int) ≤ (k : Int) := by omega
      have hst := count_step TX k hlt
      have hx := List.getElem?_eq_getElem hlt
      have HBR := Lib.hid hBr
      have HLT := Lib.hid hlt
      have HST2 := Lib.hid hst
      have hcc : (TX.take k).count 10 ≤ 2000000 := Nat.le_trans List.count_le_length (by rw [List.length_take]; omega)
      have hsz : k < (⟨TX.toArray⟩ : ByteArray).size := by simpa [ByteArray.size] using hlt
      clear hst hBr
      go_upto_if 54 with fail
      generalize hbb : ((((⟨TX.toArray⟩ : ByteArray)[k]'hsz).toNat : Int) == 10) = bb
      have hbx : (((TX[k]).toNat : Int) == 10) = bb := hbb
      generalize TX[k] = x at *
      clear hbb
      cases bb with
      | true =>
        have hx10 : x = 10 := UInt8.toNat_inj.1 (by simp at hbx; show x.toNat = 10; omega)
        have hq : (TX.take (k + 1)).count 10 = (TX.take k).count 10 + 1 := by rw [HST2.out, if_pos hx10]
        have HQ := Lib.hid hq
        clear hq hx10 hbx
        generalize (TX.take k).count 10 = cc at *
        go_wp2_with fail
        refine ⟨⟨k + 1, by rw [Int.natCast_add]; rfl, HLT.out, by rw [HQ.out, Int.natCast_add]; rfl, HBR.out⟩, ?_⟩
        simp only
        have := HLT.out
        omega
      | false =>
        have hx10 : x ≠ 10 := fun h => by rw [h] at hbx; exact absurd hbx (by decide)
        have hq : (TX.take (k + 1)).count 10 = (TX.take k).count 10 := by rw [HST2.out, if_neg hx10]; rfl
        have HQ := Lib.hid hq
        clear hq hx10 hbx
        generalize (TX.take k).count 10 = cc at *
        go_wp2_with fail
        refine ⟨⟨k + 1, by rw [Int.natCast_add]; rfl, HLT.out, by rw [HQ.out], HBR.out⟩, ?_⟩
        simp only
        have := HLT.out
        omega
end Go.Proofs.YtehjlpipnaaifaaDoor.Tl
