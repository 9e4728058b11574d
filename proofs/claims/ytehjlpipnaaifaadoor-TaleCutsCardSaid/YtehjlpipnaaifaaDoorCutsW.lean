/- TaleCuts: the walk. -/
import Derived.Test.YtehjlpipnaaifaaDoorStoA
import Derived.Test.YtehjlpipnaaifaaDoorCutP
import Derived.Deep.Cut
namespace Go.Proofs.YtehjlpipnaaifaaDoor.Tl
open Go.ChangeShapes Go.WideShapes Go.ChangeAt Go.RowKit
set_option linter.unusedVariables false
set_option linter.unusedSimpArgs false
set_option maxRecDepth 100000
set_option maxHeartbeats 4000000

theorem wCuts (a : Option Addr) (len cap : Nat) (ct : Int) (w : World)
    (HST : Hid (Calls Tryd.prog 9 #[.slice a len cap] w fun e w' => ∃ v l, e = .returned v ∧ StI w w.heap.size w' v l 60))
    (HA : Hid (∀ W, Calls Tryd.prog 8 #[] W fun e w' => e = .returned (.bool true) ∧ Below W.heap.size W w')) :
    Calls Tryd.prog 5 #[.slice a len cap, .int .i64 ct] w fun e w' => e = .returned (.bool true) ∧ Below w.heap.size w w' := by
  go_enter Tryd.func5, Tryd.ntmps5
  go_wp2_with fail
  refine HST.out.mono ?_
  rintro e w1 ⟨v, lp, rfl, hS⟩
  have hev : Evs w1 v (lp.map Prod.fst) := evs_own (by rw [List.length_map]; exact hS.row)
  have hln : (lp.map Prod.fst).length ≤ 60 := by rw [List.length_map]; exact hS.len
  have hnn : ∀ e, e ∈ lp.map Prod.fst → e.n < 18446744073709551616 := fun e he => by
    obtain ⟨p, hp, rfl⟩ := List.mem_map.1 he
    have := (hS.all p hp).1.n
    omega
  have HB1 := Lib.hid hS.bel
  clear hS HST
  generalize lp.map Prod.fst = L at *
  obtain ⟨av, cv, rfl, hv1, hv2, _⟩ := hev.form
  have HOK := Lib.hid (ok_ex hev hnn (by omega))
  have HEV := Lib.hid hev
  have HNN := Lib.hid hnn
  clear hev hnn
  go_upto_if 21 with (go_at_call 7; refine HOK.out.mono ?_; rintro e w2 ⟨g, at', rfl, hg1, hg2, hb⟩; have HG1 := Lib.hid hg1; have HG2 := Lib.hid hg2; have HB2 := Lib.hid hb; clear hg1 hg2 hb)
  go_cut [5] from 13 (fun s5 wc => ∃ m : Nat, s5 = .slice av m cv ∧ m ≤ L.length ∧ okM [] 0 0 ((evs L).take m) = none ∧ wc = w2)
  case first =>
    cases g with
    | true =>
      clear HOK HG2
      go_wp2_with fail
      go_meet
      case rel => exact ⟨L.length, rfl, Nat.le_refl _, ok_take _ _ _ _ _ (HG1.out (by trivial)), rfl⟩
    | false =>
      obtain ⟨j, rfl, hj⟩ := HG2.out (by trivial)
      obtain ⟨_, h2, h3⟩ := ok_some _ _ _ _ _ hj
      rw [Nat.zero_add] at h2
      rw [Nat.sub_zero] at h3
      have hjl : j < L.length := by simpa [evs] using h2
      have i1 : (0 : Int) ≤ (j : Int) := by omega
      have i2 : (j : Int) ≤ (cv : Int) := by omega
      have H3 := Lib.hid h3
      clear HOK HG2 HG1 hj h2 h3
      go_wp2_with fail
      go_meet
      case rel => exact ⟨j, rfl, by omega, H3.out, rfl⟩
  obtain ⟨m, rfl, hm, hok, rfl⟩ := hcut
  clear HOK HG1 HG2
  obtain ⟨κ, hκ, hκm⟩ := pick_k ct m
  have hb2 := HB1.out.trans (HB2.out.mono HB1.out.size)
  have hevm : Evs wc (.slice av m cv) (L.take m) := (HEV.out.below HB2.out).take m hm
  have hevk : Evs wc (.slice av κ cv) ((L.take m).take κ) := hevm.take κ hκm
  have hnm : ∀ e, e ∈ L.take m → e.n < 18446744073709551616 := fun e he => HNN.out e (List.mem_of_mem_take he)
  have hlm : (L.take m).length ≤ 60 := by rw [List.length_take]; omega
  have hokm : okM [] 0 0 (evs (L.take m)) = none := by rw [evs_take]; exact hok
  have HOKK := Lib.hid (ok_at hevk (fun e he => hnm e (List.mem_of_mem_take he)) (by rw [List.length_take]; omega) true 0 (by rw [evs_take, ok_take _ _ _ _ _ hokm]; rfl))
  have HB := Lib.hid hb2
  have HEVM := Lib.hid hevm
  have HNM := Lib.hid hnm
  have HOKM := Lib.hid hokm
  have hlen : (L.take m).length = m := by rw [List.length_take]; omega
  have i1 : (0 : Int) ≤ (κ : Int) := by omega
  have i2 : (κ : Int) ≤ (cv : Int) := by omega
  have i3 : ¬ ((m : Int) + 1 = 0) := by omega
  have i4 : ((m : Int) + 1 == 0) = false := by simp; omega
  have hm60 : m ≤ 60 := by omega
  clear hb2 hevm hevk hnm hokm hok HEV HNN HB1 HB2
  go_upto_region 9 with (go_at_call 7; refine HOKK.out.mono ?_; rintro e w3 ⟨at2, rfl, _, hat, hb⟩; obtain rfl := hat rfl; have HB3 := Lib.hid hb; clear hb)
  have HBW := Lib.hid (HB.out.trans (HB3.out.mono HB.out.size))
  by_cases hm2 : m < 2
  · have i5 : (m : Int) < 2 := by omega
    clear HEVM HNM HOKM HOKK hlen i1 i2 i3 i4 hκ
    go_wp2_with (go_at_call 8; refine (HA.out _).mono ?_; rintro e w9 ⟨rfl, hb9⟩; have HB9 := Lib.hid hb9; clear hb9)
    go_ret
    exact ⟨rfl, HBW.out.trans (HB9.out.mono HBW.out.size)⟩
  · have i5 : ¬ ((m : Int) < 2) := by omega
    have hev3 := HEVM.out.below HB3.out
    obtain ⟨e1, e2, r, her⟩ : ∃ e1 e2 r, L.take m = e1 :: e2 :: r := by
      match h : L.take m with
      | [] => rw [h] at hlen; simp at hlen; omega
      | [x] => rw [h] at hlen; simp at hlen; omega
      | x :: y :: r => exact ⟨x, y, r, rfl⟩
    have hft := hev3.form
    obtain ⟨a', c', hfe, _, _, hfc⟩ := hft
    simp only [Value.slice.injEq] at hfe
    obtain ⟨he1, _, he2⟩ := hfe
    subst he1 he2
    obtain ⟨g, off, hfa, _, _⟩ := hfc 0 e1 (by rw [her]; rfl)
    subst hfa
    have hdr := hev3.drop 1 (by omega)
    rw [her, if_neg (by omega)] at hdr
    rw [Nat.one_mul] at hdr
    have hokm := HOKM.out
    rw [her] at hokm
    have htl : okM [] 0 0 (evs (e2 :: r)) = some 0 := ok_tail e1.ev e2.ev (evs r) hokm
    have hnt : ∀ e, e ∈ e2 :: r → e.n < 18446744073709551616 := fun e he => HNM.out e (by rw [her]; exact List.mem_cons_of_mem _ he)
    have hlt : (e2 :: r).length ≤ 20000 := by rw [her] at hlen; simp at hlen ⊢; omega
    have HOT := Lib.hid (ok_at (show Evs w3 _ (e2 :: r) from hdr) hnt hlt false 0 htl)
    have hdd := fun (W : World) (hW : Below w3.heap.size w3 W) => deals_bad _ _ W ((show Evs w3 _ (e2 :: r) from hdr).below hW) hnt hlt 0 htl
    have HDD := Lib.hid hdd
    have i6 : (1 : Int) ≤ (m : Int) := by omega
    have i7 : ¬ cv = 1 := by omega
    rw [hlen] at *
    clear hdd hdr hokm htl hnt hlt hev3 her hfc HEVM HNM HOKM HOKK hlen i1 i2 i3 i4 hκ
    go_wp2_with (first | (go_at_call 7; refine HOT.out.mono ?_; rintro e w4 ⟨at3, rfl, hat3, _, hb⟩; obtain rfl := hat3 rfl; have HB4 := Lib.hid hb; clear hb) | (go_at_call 11; refine (HDD.out _ HB4.out).mono ?_; rintro e w5 ⟨rfl, hb⟩; have HB5 := Lib.hid hb; clear hb) | (go_at_call 8; refine (HA.out _).mono ?_; rintro e w9 ⟨rfl, hb9⟩; have HB9 := Lib.hid hb9; clear hb9))
    go_ret
    exact ⟨rfl, ((HBW.out.trans (HB4.out.mono HBW.out.size)).trans (HB5.out.mono (Nat.le_trans HBW.out.size HB4.out.size))).trans (HB9.out.mono (Nat.le_trans (Nat.le_trans HBW.out.size HB4.out.size) HB5.out.size))⟩
end Go.Proofs.YtehjlpipnaaifaaDoor.Tl
