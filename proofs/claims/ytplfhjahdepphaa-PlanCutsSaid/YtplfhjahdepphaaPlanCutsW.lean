/- PlanCuts: the walk: whatever entries and place come in, the law answers true and writes nothing that was there. -/
import Derived.Test.YtplfhjahdepphaaPlanCutsA
import Derived.Test.YtplfhjahdepphaaPlanTurnedW
namespace Go.Proofs.Ytplfhjahdepphaa.Plan
open Go.ChangeShapes Go.WideShapes Go.ChangeAt Go.RowKit
set_option linter.unusedVariables false
set_option linter.unusedSimpArgs false
set_option maxRecDepth 100000

/-- What the loop of PlanCuts keeps. -/
def CutRel (w : World) (n k : Nat) (v i : Value) (wr : World) : Prop :=
  k ≤ n ∧ k ≤ 100 ∧ i = .int .i64 k ∧ ∃ gs : List En, gs.length ≤ k ∧ (∀ e ∈ gs, V e) ∧ wr.ownsRow w.heap.size 47 7 v gs.length (flatE gs) ∧ Below w.heap.size w wr

set_option maxHeartbeats 4000000 in
theorem cuts_law (v : Value) (es : List En) (t : Int) (w : World) (hi : ∀ e ∈ es, I64 e) (hr : Ow.Row w 0 7 v (flatE es)) (ht : (Lit.int .i64 t).wf = true) :
    Calls Try.prog 12 #[v, .int .i64 t] w fun e w' => e = .returned (.bool true) ∧ Below w.heap.size w w' := by
  clear ht
  obtain ⟨p, hp⟩ : ∃ p, bits .and .i64 t 65535 = p := ⟨_, rfl⟩
  have p0 : 0 ≤ p := by rw [← hp, Bt.i64_and65535]; omega
  have p1 : p < 65536 := by rw [← hp, Bt.i64_and65535]; omega
  obtain ⟨P, rfl⟩ := Int.eq_ofNat_of_zero_le p0
  obtain ⟨a, n, cap, rfl, hn, hc, hm, ha⟩ := hr
  rw [flatE_length] at hn
  obtain rfl : n = es.length := by omega
  obtain ⟨n, hlen⟩ : ∃ n, es.length = n := ⟨_, rfl⟩
  have HN := Lib.hid hlen
  rw [hlen] at hc ha ⊢
  have HI := Lib.hid hi
  have HM := Lib.hid hm
  clear hn hm hlen hi
  go_enter Try.func12, Try.ntmps12
  go_wp2
  go_loopw [5, 6] (fun v i wr => ∃ k, CutRel w n k v i wr) (fun _ i _ => n - (intOf i).toNat)
  case atStart => exact ⟨0, by omega, by omega, rfl, [], by simp, by simp, World.ownsRow_nil _ _ _ _, Below.refl _ _⟩
  case round =>
    obtain ⟨k, hk, hk100, rfl, gs, hgk, hgv, hown, hbel⟩ := hrel
    obtain ⟨a2, cap2, rfl, hn2, hm2, hrow⟩ := Ow.own_form hown
    by_cases hlt : k < n ∧ k < 100
    · obtain ⟨hlt, hlt2⟩ := hlt
      rcases ha with ha | ⟨g, off, rfl, _, hg, hcell⟩
      · omega
      have i1 : (0 : Int) ≤ (k : Int) := by omega
      have i2 : (k : Int) < (n : Int) := by omega
      have i3 : (k : Int) < 100 := by omega
      have hN := HN.out
      have cA := row_cell (l := es) (fun j hj => hcell j (by omega)) k (by omega) badE
      generalize es.getD k badE = E at *
      have hgr : g < wr.heap.size := Nat.lt_of_lt_of_le hg hbel.size
      have kA : ∀ f, f < 7 → wr.cell? ⟨g, off + (k * 7 + f), none⟩ = (cellsE E)[f]? := fun f hf => by rw [hbel.cell (p := ⟨g, off + (k * 7 + f), none⟩) hg]; exact cA f hf
      clear cA hcell hN hrow
      have HG := Lib.hid hgv
      by_cases hv : V E
      · have HO := Lib.hid (fun W => rok_v E hv W)
        have HV : Hid (∀ e ∈ gs ++ [E], V e) := by
          intro e he
          rcases List.mem_append.1 he with he | he
          · exact hgv e he
          · simp at he; subst he; exact hv
        clear hv hgv
        obtain ⟨ek, es', elv, eok, eoy, eoh, eov⟩ := E
        have a0 := kA 0 (by omega)
        have a1 := kA 1 (by omega)
        have a2' := kA 2 (by omega)
        have a3 := kA 3 (by omega)
        have a4 := kA 4 (by omega)
        have a5 := kA 5 (by omega)
        have a6 := kA 6 (by omega)
        clear kA
        simp only [Nat.add_zero, ← Nat.add_assoc] at a0 a1 a2' a3 a4 a5 a6
        simp only [cellsE, List.getElem?_cons_zero, List.getElem?_cons_succ] at a0 a1 a2' a3 a4 a5 a6
        go_wp2_with fail
        refine (HO.out _).mono ?_
        rintro z w1 ⟨rfl, hq⟩
        have hbel1 := Ow.below_base hbel hq
        have hown1 := Ow.own_below hown hq
        replace a0 := (hq.cell (p := ⟨g, off + k * 7, none⟩) hgr).trans a0
        replace a1 := (hq.cell (p := ⟨g, off + k * 7 + 1, none⟩) hgr).trans a1
        replace a2' := (hq.cell (p := ⟨g, off + k * 7 + 2, none⟩) hgr).trans a2'
        replace a3 := (hq.cell (p := ⟨g, off + k * 7 + 3, none⟩) hgr).trans a3
        replace a4 := (hq.cell (p := ⟨g, off + k * 7 + 4, none⟩) hgr).trans a4
        replace a5 := (hq.cell (p := ⟨g, off + k * 7 + 5, none⟩) hgr).trans a5
        replace a6 := (hq.cell (p := ⟨g, off + k * 7 + 6, none⟩) hgr).trans a6
        have hsz := hbel1.size
        clear hown hbel hq hgr
        go_wp2_with (at_builtin; refine append_E _ rfl (.tmp 27) (.tmp 32) rfl w.heap.size (.slice a2 gs.length cap2) gs.length (flatE gs) rfl (hown1.alloc _) ⟨w1.heap.size, 0, none⟩ 1 (cellsE ⟨ek, es', elv, eok, eoy, eoh, eov⟩) rfl rfl ?c1 (oneCell_E _) (by omega) ?c5 ?_)
        case c1 => exact Ow.new_row w1 (cellsE ⟨ek, es', elv, eok, eoy, eoh, eov⟩) _ w1.heap.size rfl
        case c5 => simp; omega
        intro v' w2 hown2 hg2
        have hbel2 : Below w.heap.size w w2 := Ow.grown_below (hown1.alloc _) (hbel1.alloc hsz _) (by simp; omega) hg2
        rw [← flatE_snoc] at hown2
        clear hg2 hown1 hbel1 a0 a1 a2' a3 a4 a5 a6
        go_wp2_with fail
        exact ⟨⟨k + 1, by omega, by omega, by go_num, gs ++ [⟨ek, es', elv, eok, eoy, eoh, eov⟩], by simp; omega, HV.out, by simpa using hown2, hbel2⟩, by simp [intOf]; omega⟩
      · have HO := Lib.hid (fun W => rok_nv E hv W)
        clear hv hgv
        obtain ⟨ek, es', elv, eok, eoy, eoh, eov⟩ := E
        have a0 := kA 0 (by omega)
        have a1 := kA 1 (by omega)
        have a2' := kA 2 (by omega)
        have a3 := kA 3 (by omega)
        have a4 := kA 4 (by omega)
        have a5 := kA 5 (by omega)
        have a6 := kA 6 (by omega)
        clear kA
        simp only [Nat.add_zero, ← Nat.add_assoc] at a0 a1 a2' a3 a4 a5 a6
        simp only [cellsE, List.getElem?_cons_zero, List.getElem?_cons_succ] at a0 a1 a2' a3 a4 a5 a6
        go_wp2_with fail
        refine (HO.out _).mono ?_
        rintro z w1 ⟨rfl, hq⟩
        have hbel1 := Ow.below_base hbel hq
        have hown1 := Ow.own_below hown hq
        clear hown hbel hq hgr a0 a1 a2' a3 a4 a5 a6
        go_wp2_with fail
        exact ⟨⟨k + 1, by omega, by omega, by go_num, gs, by omega, HG.out, hown1, hbel1⟩, by simp [intOf]; omega⟩
    · obtain ⟨m, hm'⟩ : ∃ m, gs.length = m := ⟨_, rfl⟩
      have hrow0 : Ow.Row wr 0 7 (.slice a2 m cap2) (flatE gs) := row_weak (hm' ▸ own_row hown) (Nat.zero_le _)
      have HL := Lib.hid hm'
      have hm100 : m ≤ 100 := by omega
      have hb := hbel
      have HE := Lib.hid (encode_any _ gs (fun e he => (hgv e he).i64) (by omega) wr hrow0)
      have hblen := bytesL_length gs
      have HRNG := Lib.hid (bytesL_range gs hgv)
      have HCUT := Lib.hid (fun K (hK : K ≤ 5 * gs.length) => dec_cut gs 2000 K hgv (by omega) hK)
      have HALL := Lib.hid (dec_bytesL gs 2000 hgv (by omega))
      have HV := Lib.hid hgv
      rw [hm'] at hblen
      obtain ⟨N, hN⟩ : ∃ N, 5 * m = N := ⟨_, rfl⟩
      rw [hN] at hblen
      have HBL := Lib.hid hblen
      have hNm : ((N : Int) != 5 * (m : Int)) = false := by simp; omega
      obtain ⟨K, hK⟩ : ∃ K : Nat, (P : Int) % ((N : Int) + 1) = (K : Int) := ⟨P % (N + 1), by exact_mod_cast (Int.natCast_emod P (N + 1)).symm⟩
      have hKN : K ≤ N := by
        have := Int.emod_lt_of_pos (P : Int) (show (0 : Int) < (N : Int) + 1 by omega)
        omega
      rw [hm'] at HCUT hn2 hgk ⊢
      clear hblen hgv hrow hown hbel ha
      have hEP : EncPost wr gs = fun z w' => Below wr.heap.size wr w' ∧ (((∀ e ∈ gs, V e) ∧ ∃ a n, z = .returned (.tuple #[.slice a n n, .int .i64 0]) ∧ Ow.Row w' wr.heap.size 1 (.slice a n n) (u8s (bytesL gs))) ∨ ((¬ ∀ e ∈ gs, V e) ∧ z = .returned (.tuple #[.slice none 0 0, .int .i64 1]))) := rfl
      rw [hEP] at HE
      clear hEP
      generalize bytesL gs = bs at *
      have hstop : ¬ ((k : Int) < (n : Int)) ∨ ((k : Int) < (n : Int) ∧ ¬ ((k : Int) < 100)) := by omega
      rcases hstop with h1 | ⟨h1, h2⟩
      all_goals
        go_wp2_with fail
        refine HE.out.mono ?_
        rintro z w1 ⟨hq, h⟩
        rcases h with ⟨_, a3, n3, rfl, hx⟩ | ⟨hno, _⟩
        case inr => exact absurd HV.out hno
        obtain rfl : N = n3 := by
          obtain ⟨a', n', c', he, hl, _⟩ := hx
          simp only [Value.slice.injEq] at he
          obtain ⟨rfl, rfl, rfl⟩ := he
          rw [u8s_length, HBL.out] at hl; omega
        have hrow1 := hrow0.below hq
        replace hb := hb.trans (hq.mono hb.size)
        have iK0 : (0 : Int) ≤ (K : Int) := by omega
        have iKN : (K : Int) ≤ (N : Int) := by omega
        have hby := bytes_of_row hx HRNG.out
        clear hq hrow0 HE
        go_wp2_with fail
        simp only [hK]
        obtain ⟨q, hq5⟩ : ∃ q : Nat, (K : Int) / 5 = (q : Int) := ⟨K / 5, by omega⟩
        have hqK : K / 5 = q := by omega
        have hqm : q ≤ m := by omega
        have hcut := HCUT.out K (by rw [hN]; exact hKN)
        rw [hqK] at hcut
        have HD := Lib.hid (decode_any a3 K N (bs.take K) w1 (hby.take hKN))
        rw [hcut] at HD
        have HN5 := Lib.hid hN
        clear hcut hby HCUT hNm hN hK
        by_cases hr5 : K % 5 = 0
        · rw [if_pos hr5, List.append_nil] at HD
          have e5 : ((K : Int) % 5 != 0) = false := by simp; omega
          refine HD.out.mono ?_
          rintro z w2 ⟨v2, rfl, hd, hq⟩
          obtain ⟨a4, c4, rfl⟩ := row_len hd
          have hlq : (gs.take q).length = q := by rw [List.length_take, hm']; omega
          rw [hlq] at hd ⊢
          replace hb := hb.trans (hq.mono hb.size)
          replace hx := hx.below hq
          replace hrow1 := hrow1.below hq
          clear hq HD
          have iq0 : (0 : Int) ≤ (q : Int) := by omega
          have iq1 : (q : Int) ≤ (m : Int) := by omega
          have iq2 : (q : Int) ≤ (c4 : Int) := by
            obtain ⟨_, _, _, he, _, hnc, _⟩ := hd
            simp only [Value.slice.injEq] at he
            omega
          go_wp2_with fail
          have hg : Ow.Row w2 0 7 (.slice a2 q cap2) (flatE (gs.take q)) := by
            have := row_take hrow1 hqm
            rwa [flatE_take] at this
          have HS1 := Lib.hid (fun W (h : Below w2.heap.size w2 W) => same_yes _ _ _ _ (gs.take q) W (hd.below h) (hg.below h))
          have HDD := Lib.hid (fun a n c W (h : Bytes W a n c bs) => decode_any a n c bs W h)
          have iq4 : (q : Int) ≤ (cap2 : Int) := by omega
          have iq5 : 5 * (q : Int) ≤ (N : Int) := by omega
          have iq6 : (0 : Int) ≤ 5 * (q : Int) := by omega
          have hqN : 5 * q ≤ N := by omega
          have hwr : IntKind.i64.wrap (5 * (q : Int)) = 5 * (q : Int) := by rw [IntKind.wrap_i64]; omega
          have htn : (5 * (q : Int)).toNat = 5 * q := by omega
          have hd0 : Below w2.heap.size w2 w2.drew := (Below.refl _ _).drew
          clear hq5 hqK hm' hlq HL hn2 hgk hg
          rcases Nat.eq_zero_or_pos N with hN0 | hN0
          · subst hN0
            obtain rfl : q = 0 := by omega
            have hw0 : IntKind.i64.wrap 0 = 0 := by decide
            refine wp_region_held_drew (S := (fun _ => True)) (by kernel_rfl) ?_ (fun hHeld => ?_)
            · trivial
            refine wpAnyH_take (i := 0) (v := ?_) rfl (by kernel_rfl) (by kernel_rfl) (by kernel_rfl) (fun _ _ _ h => h) (Or.inl ⟨by rfl, ?_⟩) hHeld ?_
            rotate_left
            · (intro w hSw; (try dsimp only at hSw); go_simp; (try with_reducible rfl))
            (try simp only [List.getElem_toArray, List.getElem_cons_succ, List.getElem_cons_zero, Act.put, List.setIfInBounds_toArray, List.set_cons_zero, List.set_cons_succ])
            refine wpAnyH_take (i := 1) (v := ?_) rfl (by kernel_rfl) (by kernel_rfl) (by kernel_rfl) (fun _ _ _ h => h) (Or.inl ⟨by rfl, ?_⟩) hHeld ?_
            rotate_left
            · (intro w hSw; (try dsimp only at hSw); go_simp; (try with_reducible rfl))
            (try simp only [List.getElem_toArray, List.getElem_cons_succ, List.getElem_cons_zero, Act.put, List.setIfInBounds_toArray, List.set_cons_zero, List.set_cons_succ])
            refine wpAnyH_take (i := 2) (v := ?_) rfl (by kernel_rfl) (by kernel_rfl) (by kernel_rfl) (fun _ _ _ h => h) (Or.inl ⟨by rfl, ?_⟩) hHeld ?_
            rotate_left
            · (intro w hSw; (try dsimp only at hSw); go_simp; (try with_reducible rfl))
            (try simp only [List.getElem_toArray, List.getElem_cons_succ, List.getElem_cons_zero, Act.put, List.setIfInBounds_toArray, List.set_cons_zero, List.set_cons_succ])
            refine wpAnyH_take (i := 3) (v := ?_) rfl (by kernel_rfl) (by kernel_rfl) (by kernel_rfl) (fun _ _ _ h => h) (Or.inl ⟨by rfl, ?_⟩) hHeld ?_
            rotate_left
            · (intro w hSw; (try dsimp only at hSw); go_simp; (try with_reducible rfl))
            (try simp only [List.getElem_toArray, List.getElem_cons_succ, List.getElem_cons_zero, Act.put, List.setIfInBounds_toArray, List.set_cons_zero, List.set_cons_succ])
            refine wpAnyH_ready (rs := [4]) (by kernel_rfl) (by simp) ?_
            refine AllReadyH.cons (o := _) rfl (fun K hK => ?_) ?_
            rotate_left
            · exact AllReadyH.nil
            go_simp
            go_at_call 41; refine (HS1.out _ hd0).mono ?_; rintro z w3 ⟨rfl, hq3⟩; have hq4 := hd0.trans (hq3.mono hd0.size); have hb3 := hb.trans (hq4.mono hb.size); have hx3 := hx.below hq4; have hrow3 := hrow1.below hq4; clear hq3 hq4
            refine hK.out _ _ ?_ (fun hHeld => ?_)
            · trivial
            clear hK K
            (try simp only [List.getElem_toArray, List.getElem_cons_succ, List.getElem_cons_zero, Act.put, List.setIfInBounds_toArray, List.set_cons_zero, List.set_cons_succ])
            refine wpAnyH_take (i := 5) (v := ?_) rfl (by kernel_rfl) (by kernel_rfl) (by kernel_rfl) (fun _ _ _ h => h) (Or.inl ⟨by rfl, ?_⟩) hHeld ?_
            rotate_left
            · (intro w hSw; (try dsimp only at hSw); go_simp; (try with_reducible rfl))
            (try simp only [List.getElem_toArray, List.getElem_cons_succ, List.getElem_cons_zero, Act.put, List.setIfInBounds_toArray, List.set_cons_zero, List.set_cons_succ])
            refine wpAnyH_take (i := 7) (v := ?_) rfl (by kernel_rfl) (by kernel_rfl) (by kernel_rfl) (fun _ _ _ h => h) (Or.inl ⟨by rfl, ?_⟩) hHeld ?_
            rotate_left
            · (intro w hSw; (try dsimp only at hSw); go_simp; (try with_reducible rfl))
            (try simp only [List.getElem_toArray, List.getElem_cons_succ, List.getElem_cons_zero, Act.put, List.setIfInBounds_toArray, List.set_cons_zero, List.set_cons_succ])
            refine wpAnyH_take (i := 8) (v := ?_) rfl (by kernel_rfl) (by kernel_rfl) (by kernel_rfl) (fun _ _ _ h => h) (Or.inl ⟨by rfl, ?_⟩) hHeld ?_
            rotate_left
            · (intro w hSw; (try dsimp only at hSw); go_simp; (try with_reducible rfl))
            (try simp only [List.getElem_toArray, List.getElem_cons_succ, List.getElem_cons_zero, Act.put, List.setIfInBounds_toArray, List.set_cons_zero, List.set_cons_succ])
            refine wpAnyH_take (i := 9) (v := ?_) rfl (by kernel_rfl) (by kernel_rfl) (by kernel_rfl) (fun _ _ _ h => h) (Or.inl ⟨by rfl, ?_⟩) hHeld ?_
            rotate_left
            · (intro w hSw; (try dsimp only at hSw); go_simp; (try with_reducible rfl))
            (try simp only [List.getElem_toArray, List.getElem_cons_succ, List.getElem_cons_zero, Act.put, List.setIfInBounds_toArray, List.set_cons_zero, List.set_cons_succ])
            refine wpAnyH_take (i := 10) (v := ?_) rfl (by kernel_rfl) (by kernel_rfl) (by kernel_rfl) (fun _ _ _ h => h) (Or.inl ⟨by rfl, ?_⟩) hHeld ?_
            rotate_left
            · (intro w hSw; (try dsimp only at hSw); go_simp; (try with_reducible rfl))
            (try simp only [List.getElem_toArray, List.getElem_cons_succ, List.getElem_cons_zero, Act.put, List.setIfInBounds_toArray, List.set_cons_zero, List.set_cons_succ])
            refine wpAnyH_take (i := 12) (v := ?_) rfl (by kernel_rfl) (by kernel_rfl) (by kernel_rfl) (fun _ _ _ h => h) (Or.inl ⟨by rfl, ?_⟩) hHeld ?_
            rotate_left
            · (intro w hSw; (try dsimp only at hSw); go_simp; (try with_reducible rfl))
            (try simp only [List.getElem_toArray, List.getElem_cons_succ, List.getElem_cons_zero, Act.put, List.setIfInBounds_toArray, List.set_cons_zero, List.set_cons_succ])
            refine wpAnyH_take (i := 13) (v := ?_) rfl (by kernel_rfl) (by kernel_rfl) (by kernel_rfl) (fun _ _ _ h => h) (Or.inl ⟨by rfl, ?_⟩) hHeld ?_
            rotate_left
            · (intro w hSw; (try dsimp only at hSw); go_simp; (try with_reducible rfl))
            (try simp only [List.getElem_toArray, List.getElem_cons_succ, List.getElem_cons_zero, Act.put, List.setIfInBounds_toArray, List.set_cons_zero, List.set_cons_succ])
            refine wpAnyH_take (i := 14) (v := ?_) rfl (by kernel_rfl) (by kernel_rfl) (by kernel_rfl) (fun _ _ _ h => h) (Or.inl ⟨by rfl, ?_⟩) hHeld ?_
            rotate_left
            · (intro w hSw; (try dsimp only at hSw); go_simp; (try with_reducible rfl))
            (try simp only [List.getElem_toArray, List.getElem_cons_succ, List.getElem_cons_zero, Act.put, List.setIfInBounds_toArray, List.set_cons_zero, List.set_cons_succ])
            refine wpAnyH_take (i := 15) (v := ?_) rfl (by kernel_rfl) (by kernel_rfl) (by kernel_rfl) (fun _ _ _ h => h) (Or.inl ⟨by rfl, ?_⟩) hHeld ?_
            rotate_left
            · (intro w hSw; (try dsimp only at hSw); go_simp; (try with_reducible rfl))
            (try simp only [List.getElem_toArray, List.getElem_cons_succ, List.getElem_cons_zero, Act.put, List.setIfInBounds_toArray, List.set_cons_zero, List.set_cons_succ])
            refine wpAnyH_take (i := 18) (v := ?_) rfl (by kernel_rfl) (by kernel_rfl) (by kernel_rfl) (fun _ _ _ h => h) (Or.inl ⟨by rfl, ?_⟩) hHeld ?_
            rotate_left
            · (intro w hSw; (try dsimp only at hSw); go_simp; (try with_reducible rfl))
            (try simp only [List.getElem_toArray, List.getElem_cons_succ, List.getElem_cons_zero, Act.put, List.setIfInBounds_toArray, List.set_cons_zero, List.set_cons_succ])
            refine wpAnyH_ready (rs := [6]) (by kernel_rfl) (by simp) ?_
            refine AllReadyH.cons (o := _) rfl (fun K hK => ?_) ?_
            rotate_left
            · exact AllReadyH.nil
            rw [if_pos (by rfl)]
            unfold Oper.wp; go_simp
            refine hK.out _ _ ?_ (fun hHeld => ?_)
            · trivial
            clear hK K
            (try simp only [List.getElem_toArray, List.getElem_cons_succ, List.getElem_cons_zero, Act.put, List.setIfInBounds_toArray, List.set_cons_zero, List.set_cons_succ])
            have hT := row_take hx3 hqN
            rw [Nat.mul_one, u8s_take] at hT
            refine wpAnyH_ready (rs := [11]) (by kernel_rfl) (by simp) ?_
            refine AllReadyH.cons (o := _) rfl (fun K hK => ?_) ?_
            rotate_left
            · exact AllReadyH.nil
            rw [if_pos (by rfl)]
            refine wp_append_BR _ (.tmp 86) (.tmp 90) rfl w3.heap.size (.slice (some ⟨w3.heap.size, 0, none⟩) 0 0) 0 [] rfl (World.ownsRow_lit w3 #[] 0 (Nat.le_refl _) (Nat.zero_le _) rfl) _ _ (bs.take (5 * 0)) rfl (hT.below (below_allocs1 w3 _)) (by rw [List.length_take, HBL.out]; omega) (by simp) (fun v5 w5 hown5 hg5 => ?_)
            refine hK.out _ _ ?_ (fun hHeld => ?_)
            · trivial
            clear hK K
            (try simp only [List.getElem_toArray, List.getElem_cons_succ, List.getElem_cons_zero, Act.put, List.setIfInBounds_toArray, List.set_cons_zero, List.set_cons_succ])
            have hR : Ow.Row w3 wr.heap.size 1 (.slice a3 0 0) (u8s (bs.drop (5 * 0))) := hx3
            have hq5 : Below w3.heap.size w3 w5 := ((Below.refl _ _).alloc (Nat.le_refl _) _).grown hg5 (by simp) (by intro k hk; simp [Value.ownBlock] at hk; subst hk; exact Nat.le_refl _)
            refine wpAnyH_ready (rs := [16]) (by kernel_rfl) (by simp) ?_
            refine AllReadyH.cons (o := _) rfl (fun K hK => ?_) ?_
            rotate_left
            · exact AllReadyH.nil
            rw [if_pos (by rfl)]
            refine wp_append_BR _ (.tmp 91) (.tmp 95) rfl w3.heap.size v5 _ _ rfl hown5 _ _ (bs.drop (5 * 0)) rfl (hR.below hq5) (by simp only [Nat.zero_add]; rw [List.length_take, List.length_drop, HBL.out]; have := HN5.out; omega) hq5.size (fun v6 w6 hown6 hg6 => ?_)
            refine hK.out _ _ ?_ (fun hHeld => ?_)
            · trivial
            clear hK K
            (try simp only [List.getElem_toArray, List.getElem_cons_succ, List.getElem_cons_zero, Act.put, List.setIfInBounds_toArray, List.set_cons_zero, List.set_cons_succ])
            have hq6 : Below w3.heap.size w3 w6 := hq5.grown hg6 hq5.size (fun k hk => (hown5.lt k hk).1)
            have hb6 := hb3.trans (hq6.mono hb3.size)
            have hrow6 := hrow3.below hq6
            rw [List.nil_append, ← u8s_append, List.take_append_drop] at hown6
            rw [show 0 + (bs.take (5 * 0)).length + (bs.drop (5 * 0)).length = 0 from by rw [List.length_take, List.length_drop, HBL.out]; omega] at hown6
            obtain ⟨a6, c6, rfl, _⟩ := Ow.own_form hown6
            have hby6 := bytes_of_row (own_row hown6) HRNG.out
            refine wpAnyH_ready (rs := [17]) (by kernel_rfl) (by simp) ?_
            refine AllReadyH.cons (o := _) rfl (fun K hK => ?_) ?_
            rotate_left
            · exact AllReadyH.nil
            go_simp
            go_at_call 42; refine (HDD.out _ _ _ _ hby6).mono ?_; rintro z w7 ⟨v7, rfl, hd7, hq7⟩; rw [HALL.out] at hd7; have hrow7 := hrow6.below hq7; have hb7 := hb6.trans (hq7.mono hb6.size)
            refine hK.out _ _ ?_ (fun hHeld => ?_)
            · trivial
            clear hK K
            (try simp only [List.getElem_toArray, List.getElem_cons_succ, List.getElem_cons_zero, Act.put, List.setIfInBounds_toArray, List.set_cons_zero, List.set_cons_succ])
            refine wpAnyH_ready (rs := [19]) (by kernel_rfl) (by simp) ?_
            refine AllReadyH.cons (o := _) rfl (fun K hK => ?_) ?_
            rotate_left
            · exact AllReadyH.nil
            go_simp
            go_at_call 41; refine (same_yes _ _ _ _ gs _ hd7 hrow7).mono ?_; rintro z w8 ⟨rfl, hq8⟩; have hb8 := hb7.trans (hq8.mono hb7.size)
            refine hK.out _ _ ?_ (fun hHeld => ?_)
            · trivial
            clear hK K
            (try simp only [List.getElem_toArray, List.getElem_cons_succ, List.getElem_cons_zero, Act.put, List.setIfInBounds_toArray, List.set_cons_zero, List.set_cons_succ])
            refine wpAnyH_take (i := 20) (v := ?_) rfl (by kernel_rfl) (by kernel_rfl) (by kernel_rfl) (fun _ _ _ h => h) (Or.inl ⟨by rfl, ?_⟩) hHeld ?_
            rotate_left
            · (intro w hSw; (try dsimp only at hSw); go_simp; (try with_reducible rfl))
            (try simp only [List.getElem_toArray, List.getElem_cons_succ, List.getElem_cons_zero, Act.put, List.setIfInBounds_toArray, List.set_cons_zero, List.set_cons_succ])
            refine wpAnyH_take (i := 21) (v := ?_) rfl (by kernel_rfl) (by kernel_rfl) (by kernel_rfl) (fun _ _ _ h => h) (Or.inl ⟨by rfl, ?_⟩) hHeld ?_
            rotate_left
            · (intro w hSw; (try dsimp only at hSw); go_simp; (try with_reducible rfl))
            (try simp only [List.getElem_toArray, List.getElem_cons_succ, List.getElem_cons_zero, Act.put, List.setIfInBounds_toArray, List.set_cons_zero, List.set_cons_succ])
            refine wpAnyH_ready (rs := [22]) (by kernel_rfl) (by simp) ?_
            refine AllReadyH.cons (o := _) rfl (fun K hK => ?_) ?_
            rotate_left
            · exact AllReadyH.nil
            go_simp
            go_at_call 37; refine (awake_any _).mono ?_; rintro z w9 ⟨rfl, hq9⟩; have hb9 := hb8.trans (hq9.mono hb8.size)
            refine hK.out _ _ ?_ (fun hHeld => ?_)
            · trivial
            clear hK K
            (try simp only [List.getElem_toArray, List.getElem_cons_succ, List.getElem_cons_zero, Act.put, List.setIfInBounds_toArray, List.set_cons_zero, List.set_cons_succ])
            refine wpAnyH_take (i := 23) (v := ?_) rfl (by kernel_rfl) (by kernel_rfl) (by kernel_rfl) (fun _ _ _ h => h) (Or.inl ⟨by rfl, ?_⟩) hHeld ?_
            rotate_left
            · (intro w hSw; (try dsimp only at hSw); go_simp; (try with_reducible rfl))
            (try simp only [List.getElem_toArray, List.getElem_cons_succ, List.getElem_cons_zero, Act.put, List.setIfInBounds_toArray, List.set_cons_zero, List.set_cons_succ])
            refine wpAnyH_take (i := 24) (v := ?_) rfl (by kernel_rfl) (by kernel_rfl) (by kernel_rfl) (fun _ _ _ h => h) (Or.inl ⟨by rfl, ?_⟩) hHeld ?_
            rotate_left
            · (intro w hSw; (try dsimp only at hSw); go_simp; (try with_reducible rfl))
            (try simp only [List.getElem_toArray, List.getElem_cons_succ, List.getElem_cons_zero, Act.put, List.setIfInBounds_toArray, List.set_cons_zero, List.set_cons_succ])
            refine wpAnyH_done (by kernel_rfl) ?_ _
            clear hwr htn e5 hr5 iq0 iq1 iq2 iq4 iq5 iq6 hqN hd0
            unfold Exit.then
            dsimp only
            clear HS1 HDD hx hx3 hrow3 hT hown5 hg5 hR hq5 hg6 hq6 hb6 hrow6 hby6 hown6 hd7 hq7 hrow7 hb7 hq8 hb8 hq9 hb hrow1 hb3 HRNG HALL HBL HV HN HI HM hp p0 p1 iK0 iKN HN5
            go_wp2_with fail
            all_goals
              go_ret
              exact ⟨rfl, hb9⟩
          obtain ⟨g3, off3, rfl, -, -, -⟩ := row_some hx hN0
          refine wp_region_held_drew (S := (fun _ => True)) (by kernel_rfl) ?_ (fun hHeld => ?_)
          · trivial
          refine wpAnyH_take (i := 0) (v := ?_) rfl (by kernel_rfl) (by kernel_rfl) (by kernel_rfl) (fun _ _ _ h => h) (Or.inl ⟨by rfl, ?_⟩) hHeld ?_
          rotate_left
          · (intro w hSw; (try dsimp only at hSw); go_simp; (try with_reducible rfl))
          (try simp only [List.getElem_toArray, List.getElem_cons_succ, List.getElem_cons_zero, Act.put, List.setIfInBounds_toArray, List.set_cons_zero, List.set_cons_succ])
          refine wpAnyH_take (i := 1) (v := ?_) rfl (by kernel_rfl) (by kernel_rfl) (by kernel_rfl) (fun _ _ _ h => h) (Or.inl ⟨by rfl, ?_⟩) hHeld ?_
          rotate_left
          · (intro w hSw; (try dsimp only at hSw); go_simp; (try with_reducible rfl))
          (try simp only [List.getElem_toArray, List.getElem_cons_succ, List.getElem_cons_zero, Act.put, List.setIfInBounds_toArray, List.set_cons_zero, List.set_cons_succ])
          refine wpAnyH_take (i := 2) (v := ?_) rfl (by kernel_rfl) (by kernel_rfl) (by kernel_rfl) (fun _ _ _ h => h) (Or.inl ⟨by rfl, ?_⟩) hHeld ?_
          rotate_left
          · (intro w hSw; (try dsimp only at hSw); go_simp; (try with_reducible rfl))
          (try simp only [List.getElem_toArray, List.getElem_cons_succ, List.getElem_cons_zero, Act.put, List.setIfInBounds_toArray, List.set_cons_zero, List.set_cons_succ])
          refine wpAnyH_take (i := 3) (v := ?_) rfl (by kernel_rfl) (by kernel_rfl) (by kernel_rfl) (fun _ _ _ h => h) (Or.inl ⟨by rfl, ?_⟩) hHeld ?_
          rotate_left
          · (intro w hSw; (try dsimp only at hSw); go_simp; (try with_reducible rfl))
          (try simp only [List.getElem_toArray, List.getElem_cons_succ, List.getElem_cons_zero, Act.put, List.setIfInBounds_toArray, List.set_cons_zero, List.set_cons_succ])
          refine wpAnyH_ready (rs := [4]) (by kernel_rfl) (by simp) ?_
          refine AllReadyH.cons (o := _) rfl (fun K hK => ?_) ?_
          rotate_left
          · exact AllReadyH.nil
          go_simp
          go_at_call 41; refine (HS1.out _ hd0).mono ?_; rintro z w3 ⟨rfl, hq3⟩; have hq4 := hd0.trans (hq3.mono hd0.size); have hb3 := hb.trans (hq4.mono hb.size); have hx3 := hx.below hq4; have hrow3 := hrow1.below hq4; clear hq3 hq4
          refine hK.out _ _ ?_ (fun hHeld => ?_)
          · trivial
          clear hK K
          (try simp only [List.getElem_toArray, List.getElem_cons_succ, List.getElem_cons_zero, Act.put, List.setIfInBounds_toArray, List.set_cons_zero, List.set_cons_succ])
          refine wpAnyH_take (i := 5) (v := ?_) rfl (by kernel_rfl) (by kernel_rfl) (by kernel_rfl) (fun _ _ _ h => h) (Or.inl ⟨by rfl, ?_⟩) hHeld ?_
          rotate_left
          · (intro w hSw; (try dsimp only at hSw); go_simp; (try with_reducible rfl))
          (try simp only [List.getElem_toArray, List.getElem_cons_succ, List.getElem_cons_zero, Act.put, List.setIfInBounds_toArray, List.set_cons_zero, List.set_cons_succ])
          refine wpAnyH_take (i := 7) (v := ?_) rfl (by kernel_rfl) (by kernel_rfl) (by kernel_rfl) (fun _ _ _ h => h) (Or.inl ⟨by rfl, ?_⟩) hHeld ?_
          rotate_left
          · (intro w hSw; (try dsimp only at hSw); go_simp; (try with_reducible rfl))
          (try simp only [List.getElem_toArray, List.getElem_cons_succ, List.getElem_cons_zero, Act.put, List.setIfInBounds_toArray, List.set_cons_zero, List.set_cons_succ])
          refine wpAnyH_take (i := 8) (v := ?_) rfl (by kernel_rfl) (by kernel_rfl) (by kernel_rfl) (fun _ _ _ h => h) (Or.inl ⟨by rfl, ?_⟩) hHeld ?_
          rotate_left
          · (intro w hSw; (try dsimp only at hSw); go_simp; (try with_reducible rfl))
          (try simp only [List.getElem_toArray, List.getElem_cons_succ, List.getElem_cons_zero, Act.put, List.setIfInBounds_toArray, List.set_cons_zero, List.set_cons_succ])
          refine wpAnyH_take (i := 9) (v := ?_) rfl (by kernel_rfl) (by kernel_rfl) (by kernel_rfl) (fun _ _ _ h => h) (Or.inl ⟨by rfl, ?_⟩) hHeld ?_
          rotate_left
          · (intro w hSw; (try dsimp only at hSw); go_simp; (try with_reducible rfl))
          (try simp only [List.getElem_toArray, List.getElem_cons_succ, List.getElem_cons_zero, Act.put, List.setIfInBounds_toArray, List.set_cons_zero, List.set_cons_succ])
          refine wpAnyH_take (i := 10) (v := ?_) rfl (by kernel_rfl) (by kernel_rfl) (by kernel_rfl) (fun _ _ _ h => h) (Or.inl ⟨by rfl, ?_⟩) hHeld ?_
          rotate_left
          · (intro w hSw; (try dsimp only at hSw); go_simp; (try with_reducible rfl))
          (try simp only [List.getElem_toArray, List.getElem_cons_succ, List.getElem_cons_zero, Act.put, List.setIfInBounds_toArray, List.set_cons_zero, List.set_cons_succ])
          refine wpAnyH_take (i := 12) (v := ?_) rfl (by kernel_rfl) (by kernel_rfl) (by kernel_rfl) (fun _ _ _ h => h) (Or.inl ⟨by rfl, ?_⟩) hHeld ?_
          rotate_left
          · (intro w hSw; (try dsimp only at hSw); go_simp; (try with_reducible rfl))
          (try simp only [List.getElem_toArray, List.getElem_cons_succ, List.getElem_cons_zero, Act.put, List.setIfInBounds_toArray, List.set_cons_zero, List.set_cons_succ])
          refine wpAnyH_take (i := 13) (v := ?_) rfl (by kernel_rfl) (by kernel_rfl) (by kernel_rfl) (fun _ _ _ h => h) (Or.inl ⟨by rfl, ?_⟩) hHeld ?_
          rotate_left
          · (intro w hSw; (try dsimp only at hSw); go_simp; (try with_reducible rfl))
          (try simp only [List.getElem_toArray, List.getElem_cons_succ, List.getElem_cons_zero, Act.put, List.setIfInBounds_toArray, List.set_cons_zero, List.set_cons_succ])
          refine wpAnyH_take (i := 14) (v := ?_) rfl (by kernel_rfl) (by kernel_rfl) (by kernel_rfl) (fun _ _ _ h => h) (Or.inl ⟨by rfl, ?_⟩) hHeld ?_
          rotate_left
          · (intro w hSw; (try dsimp only at hSw); go_simp; (try with_reducible rfl))
          (try simp only [List.getElem_toArray, List.getElem_cons_succ, List.getElem_cons_zero, Act.put, List.setIfInBounds_toArray, List.set_cons_zero, List.set_cons_succ])
          refine wpAnyH_take (i := 15) (v := ?_) rfl (by kernel_rfl) (by kernel_rfl) (by kernel_rfl) (fun _ _ _ h => h) (Or.inl ⟨by rfl, ?_⟩) hHeld ?_
          rotate_left
          · (intro w hSw; (try dsimp only at hSw); go_simp; (try with_reducible rfl))
          (try simp only [List.getElem_toArray, List.getElem_cons_succ, List.getElem_cons_zero, Act.put, List.setIfInBounds_toArray, List.set_cons_zero, List.set_cons_succ])
          refine wpAnyH_take (i := 18) (v := ?_) rfl (by kernel_rfl) (by kernel_rfl) (by kernel_rfl) (fun _ _ _ h => h) (Or.inl ⟨by rfl, ?_⟩) hHeld ?_
          rotate_left
          · (intro w hSw; (try dsimp only at hSw); go_simp; (try with_reducible rfl))
          (try simp only [List.getElem_toArray, List.getElem_cons_succ, List.getElem_cons_zero, Act.put, List.setIfInBounds_toArray, List.set_cons_zero, List.set_cons_succ])
          refine wpAnyH_ready (rs := [6]) (by kernel_rfl) (by simp) ?_
          refine AllReadyH.cons (o := _) rfl (fun K hK => ?_) ?_
          rotate_left
          · exact AllReadyH.nil
          rw [if_pos (by rfl)]
          unfold Oper.wp; go_simp
          refine hK.out _ _ ?_ (fun hHeld => ?_)
          · trivial
          clear hK K
          (try simp only [List.getElem_toArray, List.getElem_cons_succ, List.getElem_cons_zero, Act.put, List.setIfInBounds_toArray, List.set_cons_zero, List.set_cons_succ])
          have hT := row_take hx3 hqN
          rw [Nat.mul_one, u8s_take] at hT
          refine wpAnyH_ready (rs := [11]) (by kernel_rfl) (by simp) ?_
          refine AllReadyH.cons (o := _) rfl (fun K hK => ?_) ?_
          rotate_left
          · exact AllReadyH.nil
          rw [if_pos (by rfl)]
          refine wp_append_BR _ (.tmp 86) (.tmp 90) rfl w3.heap.size (.slice (some ⟨w3.heap.size, 0, none⟩) 0 0) 0 [] rfl (World.ownsRow_lit w3 #[] 0 (Nat.le_refl _) (Nat.zero_le _) rfl) _ _ (bs.take (5 * q)) rfl (hT.below (below_allocs1 w3 _)) (by rw [List.length_take, HBL.out]; omega) (by simp) (fun v5 w5 hown5 hg5 => ?_)
          refine hK.out _ _ ?_ (fun hHeld => ?_)
          · trivial
          clear hK K
          (try simp only [List.getElem_toArray, List.getElem_cons_succ, List.getElem_cons_zero, Act.put, List.setIfInBounds_toArray, List.set_cons_zero, List.set_cons_succ])
          have hR := row_drop hx3 hqN
          rw [u8s_drop] at hR
          have hq5 : Below w3.heap.size w3 w5 := ((Below.refl _ _).alloc (Nat.le_refl _) _).grown hg5 (by simp) (by intro k hk; simp [Value.ownBlock] at hk; subst hk; exact Nat.le_refl _)
          refine wpAnyH_ready (rs := [16]) (by kernel_rfl) (by simp) ?_
          refine AllReadyH.cons (o := _) rfl (fun K hK => ?_) ?_
          rotate_left
          · exact AllReadyH.nil
          rw [if_pos (by rfl)]
          refine wp_append_BR _ (.tmp 91) (.tmp 95) rfl w3.heap.size v5 _ _ rfl hown5 _ _ (bs.drop (5 * q)) rfl (hR.below hq5) (by simp only [Nat.zero_add]; rw [List.length_take, List.length_drop, HBL.out]; have := HN5.out; omega) hq5.size (fun v6 w6 hown6 hg6 => ?_)
          refine hK.out _ _ ?_ (fun hHeld => ?_)
          · trivial
          clear hK K
          (try simp only [List.getElem_toArray, List.getElem_cons_succ, List.getElem_cons_zero, Act.put, List.setIfInBounds_toArray, List.set_cons_zero, List.set_cons_succ])
          have hq6 : Below w3.heap.size w3 w6 := hq5.grown hg6 hq5.size (fun k hk => (hown5.lt k hk).1)
          have hb6 := hb3.trans (hq6.mono hb3.size)
          have hrow6 := hrow3.below hq6
          rw [List.nil_append, ← u8s_append, List.take_append_drop] at hown6
          rw [show 0 + (bs.take (5 * q)).length + (bs.drop (5 * q)).length = N from by rw [List.length_take, List.length_drop, HBL.out]; omega] at hown6
          obtain ⟨a6, c6, rfl, _⟩ := Ow.own_form hown6
          have hby6 := bytes_of_row (own_row hown6) HRNG.out
          refine wpAnyH_ready (rs := [17]) (by kernel_rfl) (by simp) ?_
          refine AllReadyH.cons (o := _) rfl (fun K hK => ?_) ?_
          rotate_left
          · exact AllReadyH.nil
          go_simp
          go_at_call 42; refine (HDD.out _ _ _ _ hby6).mono ?_; rintro z w7 ⟨v7, rfl, hd7, hq7⟩; rw [HALL.out] at hd7; have hrow7 := hrow6.below hq7; have hb7 := hb6.trans (hq7.mono hb6.size)
          refine hK.out _ _ ?_ (fun hHeld => ?_)
          · trivial
          clear hK K
          (try simp only [List.getElem_toArray, List.getElem_cons_succ, List.getElem_cons_zero, Act.put, List.setIfInBounds_toArray, List.set_cons_zero, List.set_cons_succ])
          refine wpAnyH_ready (rs := [19]) (by kernel_rfl) (by simp) ?_
          refine AllReadyH.cons (o := _) rfl (fun K hK => ?_) ?_
          rotate_left
          · exact AllReadyH.nil
          go_simp
          go_at_call 41; refine (same_yes _ _ _ _ gs _ hd7 hrow7).mono ?_; rintro z w8 ⟨rfl, hq8⟩; have hb8 := hb7.trans (hq8.mono hb7.size)
          refine hK.out _ _ ?_ (fun hHeld => ?_)
          · trivial
          clear hK K
          (try simp only [List.getElem_toArray, List.getElem_cons_succ, List.getElem_cons_zero, Act.put, List.setIfInBounds_toArray, List.set_cons_zero, List.set_cons_succ])
          refine wpAnyH_take (i := 20) (v := ?_) rfl (by kernel_rfl) (by kernel_rfl) (by kernel_rfl) (fun _ _ _ h => h) (Or.inl ⟨by rfl, ?_⟩) hHeld ?_
          rotate_left
          · (intro w hSw; (try dsimp only at hSw); go_simp; (try with_reducible rfl))
          (try simp only [List.getElem_toArray, List.getElem_cons_succ, List.getElem_cons_zero, Act.put, List.setIfInBounds_toArray, List.set_cons_zero, List.set_cons_succ])
          refine wpAnyH_take (i := 21) (v := ?_) rfl (by kernel_rfl) (by kernel_rfl) (by kernel_rfl) (fun _ _ _ h => h) (Or.inl ⟨by rfl, ?_⟩) hHeld ?_
          rotate_left
          · (intro w hSw; (try dsimp only at hSw); go_simp; (try with_reducible rfl))
          (try simp only [List.getElem_toArray, List.getElem_cons_succ, List.getElem_cons_zero, Act.put, List.setIfInBounds_toArray, List.set_cons_zero, List.set_cons_succ])
          refine wpAnyH_ready (rs := [22]) (by kernel_rfl) (by simp) ?_
          refine AllReadyH.cons (o := _) rfl (fun K hK => ?_) ?_
          rotate_left
          · exact AllReadyH.nil
          go_simp
          go_at_call 37; refine (awake_any _).mono ?_; rintro z w9 ⟨rfl, hq9⟩; have hb9 := hb8.trans (hq9.mono hb8.size)
          refine hK.out _ _ ?_ (fun hHeld => ?_)
          · trivial
          clear hK K
          (try simp only [List.getElem_toArray, List.getElem_cons_succ, List.getElem_cons_zero, Act.put, List.setIfInBounds_toArray, List.set_cons_zero, List.set_cons_succ])
          refine wpAnyH_take (i := 23) (v := ?_) rfl (by kernel_rfl) (by kernel_rfl) (by kernel_rfl) (fun _ _ _ h => h) (Or.inl ⟨by rfl, ?_⟩) hHeld ?_
          rotate_left
          · (intro w hSw; (try dsimp only at hSw); go_simp; (try with_reducible rfl))
          (try simp only [List.getElem_toArray, List.getElem_cons_succ, List.getElem_cons_zero, Act.put, List.setIfInBounds_toArray, List.set_cons_zero, List.set_cons_succ])
          refine wpAnyH_take (i := 24) (v := ?_) rfl (by kernel_rfl) (by kernel_rfl) (by kernel_rfl) (fun _ _ _ h => h) (Or.inl ⟨by rfl, ?_⟩) hHeld ?_
          rotate_left
          · (intro w hSw; (try dsimp only at hSw); go_simp; (try with_reducible rfl))
          (try simp only [List.getElem_toArray, List.getElem_cons_succ, List.getElem_cons_zero, Act.put, List.setIfInBounds_toArray, List.set_cons_zero, List.set_cons_succ])
          refine wpAnyH_done (by kernel_rfl) ?_ _
          clear hwr htn e5 hr5 iq0 iq1 iq2 iq4 iq5 iq6 hqN hd0 hN0
          unfold Exit.then
          dsimp only
          clear HS1 HDD hx hx3 hrow3 hT hown5 hg5 hR hq5 hg6 hq6 hb6 hrow6 hby6 hown6 hd7 hq7 hrow7 hb7 hq8 hb8 hq9 hb hrow1 hb3 HRNG HALL HBL HV HN HI HM hp p0 p1 iK0 iKN HN5
          go_wp2_with fail
          all_goals
            go_ret
            exact ⟨rfl, hb9⟩
        · rw [if_neg hr5] at HD
          have e5 : ((K : Int) % 5 != 0) = true := by simp; omega
          refine HD.out.mono ?_
          rintro z w2 ⟨v2, rfl, hd, hq⟩
          obtain ⟨a4, c4, rfl⟩ := row_len hd
          have hlq : (gs.take q ++ [badE]).length = q + 1 := by rw [List.length_append, List.length_take, hm']; simp; omega
          rw [hlq] at hd ⊢
          replace hb := hb.trans (hq.mono hb.size)
          replace hx := hx.below hq
          replace hrow1 := hrow1.below hq
          clear hq HD
          have iq0 : (0 : Int) ≤ (q : Int) := by omega
          have iq1 : (q : Int) ≤ (m : Int) := by omega
          have iq2 : (q : Int) ≤ (c4 : Int) := by
            obtain ⟨_, _, _, he, _, hnc, _⟩ := hd
            simp only [Value.slice.injEq] at he
            omega
          obtain ⟨g4, off4, rfl, hg4, hg4', hc4⟩ := row_some hd (by omega)
          have hcc := row_cell (l := gs.take q ++ [badE]) (fun j hj => hc4 j (by rw [hlq] at hj; exact hj)) q (by omega) badE
          have hgd : (gs.take q ++ [badE]).getD q badE = badE := by
            rw [List.getD_eq_getElem?_getD, List.getElem?_append_right (by rw [List.length_take]; omega)]
            have : q - (gs.take q).length = 0 := by rw [List.length_take, hm']; omega
            rw [this]; rfl
          rw [hgd] at hcc
          have d0 := hcc 0 (by omega)
          have d1 := hcc 1 (by omega)
          have d2 := hcc 2 (by omega)
          have d3 := hcc 3 (by omega)
          have d4 := hcc 4 (by omega)
          have d5 := hcc 5 (by omega)
          have d6 := hcc 6 (by omega)
          clear hcc hc4 hgd
          simp only [Nat.add_zero, ← Nat.add_assoc] at d0 d1 d2 d3 d4 d5 d6
          simp only [cellsE, badE, List.getElem?_cons_zero, List.getElem?_cons_succ] at d0 d1 d2 d3 d4 d5 d6
          have hd' := row_take hd (Nat.le_succ q)
          rw [flatE_take, List.take_append_of_le_length (by rw [List.length_take, hm']; omega), List.take_take, Nat.min_self] at hd'
          clear hd
          have iq3 : (q : Int) < (q : Int) + 1 := by omega
          go_wp2_with fail
          clear d0 d1 d2 d3 d4 d5 d6 hg4 hg4' iq3
          have hg : Ow.Row w2 0 7 (.slice a2 q cap2) (flatE (gs.take q)) := by
            have := row_take hrow1 hqm
            rwa [flatE_take] at this
          have HS1 := Lib.hid (fun W (h : Below w2.heap.size w2 W) => same_yes _ _ _ _ (gs.take q) W (hd'.below h) (hg.below h))
          have HDD := Lib.hid (fun a n c W (h : Bytes W a n c bs) => decode_any a n c bs W h)
          have iq4 : (q : Int) ≤ (cap2 : Int) := by omega
          have iq5 : 5 * (q : Int) ≤ (N : Int) := by omega
          have iq6 : (0 : Int) ≤ 5 * (q : Int) := by omega
          have hqN : 5 * q ≤ N := by omega
          have hwr : IntKind.i64.wrap (5 * (q : Int)) = 5 * (q : Int) := by rw [IntKind.wrap_i64]; omega
          have htn : (5 * (q : Int)).toNat = 5 * q := by omega
          have hd0 : Below w2.heap.size w2 w2.drew := (Below.refl _ _).drew
          clear hq5 hqK hm' hlq HL hn2 hgk hg
          have hN0 : 0 < N := by omega
          obtain ⟨g3, off3, rfl, -, -, -⟩ := row_some hx hN0
          refine wp_region_held_drew (S := (fun _ => True)) (by kernel_rfl) ?_ (fun hHeld => ?_)
          · trivial
          refine wpAnyH_take (i := 0) (v := ?_) rfl (by kernel_rfl) (by kernel_rfl) (by kernel_rfl) (fun _ _ _ h => h) (Or.inl ⟨by rfl, ?_⟩) hHeld ?_
          rotate_left
          · (intro w hSw; (try dsimp only at hSw); go_simp; (try with_reducible rfl))
          (try simp only [List.getElem_toArray, List.getElem_cons_succ, List.getElem_cons_zero, Act.put, List.setIfInBounds_toArray, List.set_cons_zero, List.set_cons_succ])
          refine wpAnyH_take (i := 1) (v := ?_) rfl (by kernel_rfl) (by kernel_rfl) (by kernel_rfl) (fun _ _ _ h => h) (Or.inl ⟨by rfl, ?_⟩) hHeld ?_
          rotate_left
          · (intro w hSw; (try dsimp only at hSw); go_simp; (try with_reducible rfl))
          (try simp only [List.getElem_toArray, List.getElem_cons_succ, List.getElem_cons_zero, Act.put, List.setIfInBounds_toArray, List.set_cons_zero, List.set_cons_succ])
          refine wpAnyH_take (i := 2) (v := ?_) rfl (by kernel_rfl) (by kernel_rfl) (by kernel_rfl) (fun _ _ _ h => h) (Or.inl ⟨by rfl, ?_⟩) hHeld ?_
          rotate_left
          · (intro w hSw; (try dsimp only at hSw); go_simp; (try with_reducible rfl))
          (try simp only [List.getElem_toArray, List.getElem_cons_succ, List.getElem_cons_zero, Act.put, List.setIfInBounds_toArray, List.set_cons_zero, List.set_cons_succ])
          refine wpAnyH_take (i := 3) (v := ?_) rfl (by kernel_rfl) (by kernel_rfl) (by kernel_rfl) (fun _ _ _ h => h) (Or.inl ⟨by rfl, ?_⟩) hHeld ?_
          rotate_left
          · (intro w hSw; (try dsimp only at hSw); go_simp; (try with_reducible rfl))
          (try simp only [List.getElem_toArray, List.getElem_cons_succ, List.getElem_cons_zero, Act.put, List.setIfInBounds_toArray, List.set_cons_zero, List.set_cons_succ])
          refine wpAnyH_ready (rs := [4]) (by kernel_rfl) (by simp) ?_
          refine AllReadyH.cons (o := _) rfl (fun K hK => ?_) ?_
          rotate_left
          · exact AllReadyH.nil
          go_simp
          go_at_call 41; refine (HS1.out _ hd0).mono ?_; rintro z w3 ⟨rfl, hq3⟩; have hq4 := hd0.trans (hq3.mono hd0.size); have hb3 := hb.trans (hq4.mono hb.size); have hx3 := hx.below hq4; have hrow3 := hrow1.below hq4; clear hq3 hq4
          refine hK.out _ _ ?_ (fun hHeld => ?_)
          · trivial
          clear hK K
          (try simp only [List.getElem_toArray, List.getElem_cons_succ, List.getElem_cons_zero, Act.put, List.setIfInBounds_toArray, List.set_cons_zero, List.set_cons_succ])
          refine wpAnyH_take (i := 5) (v := ?_) rfl (by kernel_rfl) (by kernel_rfl) (by kernel_rfl) (fun _ _ _ h => h) (Or.inl ⟨by rfl, ?_⟩) hHeld ?_
          rotate_left
          · (intro w hSw; (try dsimp only at hSw); go_simp; (try with_reducible rfl))
          (try simp only [List.getElem_toArray, List.getElem_cons_succ, List.getElem_cons_zero, Act.put, List.setIfInBounds_toArray, List.set_cons_zero, List.set_cons_succ])
          refine wpAnyH_take (i := 7) (v := ?_) rfl (by kernel_rfl) (by kernel_rfl) (by kernel_rfl) (fun _ _ _ h => h) (Or.inl ⟨by rfl, ?_⟩) hHeld ?_
          rotate_left
          · (intro w hSw; (try dsimp only at hSw); go_simp; (try with_reducible rfl))
          (try simp only [List.getElem_toArray, List.getElem_cons_succ, List.getElem_cons_zero, Act.put, List.setIfInBounds_toArray, List.set_cons_zero, List.set_cons_succ])
          refine wpAnyH_take (i := 8) (v := ?_) rfl (by kernel_rfl) (by kernel_rfl) (by kernel_rfl) (fun _ _ _ h => h) (Or.inl ⟨by rfl, ?_⟩) hHeld ?_
          rotate_left
          · (intro w hSw; (try dsimp only at hSw); go_simp; (try with_reducible rfl))
          (try simp only [List.getElem_toArray, List.getElem_cons_succ, List.getElem_cons_zero, Act.put, List.setIfInBounds_toArray, List.set_cons_zero, List.set_cons_succ])
          refine wpAnyH_take (i := 9) (v := ?_) rfl (by kernel_rfl) (by kernel_rfl) (by kernel_rfl) (fun _ _ _ h => h) (Or.inl ⟨by rfl, ?_⟩) hHeld ?_
          rotate_left
          · (intro w hSw; (try dsimp only at hSw); go_simp; (try with_reducible rfl))
          (try simp only [List.getElem_toArray, List.getElem_cons_succ, List.getElem_cons_zero, Act.put, List.setIfInBounds_toArray, List.set_cons_zero, List.set_cons_succ])
          refine wpAnyH_take (i := 10) (v := ?_) rfl (by kernel_rfl) (by kernel_rfl) (by kernel_rfl) (fun _ _ _ h => h) (Or.inl ⟨by rfl, ?_⟩) hHeld ?_
          rotate_left
          · (intro w hSw; (try dsimp only at hSw); go_simp; (try with_reducible rfl))
          (try simp only [List.getElem_toArray, List.getElem_cons_succ, List.getElem_cons_zero, Act.put, List.setIfInBounds_toArray, List.set_cons_zero, List.set_cons_succ])
          refine wpAnyH_take (i := 12) (v := ?_) rfl (by kernel_rfl) (by kernel_rfl) (by kernel_rfl) (fun _ _ _ h => h) (Or.inl ⟨by rfl, ?_⟩) hHeld ?_
          rotate_left
          · (intro w hSw; (try dsimp only at hSw); go_simp; (try with_reducible rfl))
          (try simp only [List.getElem_toArray, List.getElem_cons_succ, List.getElem_cons_zero, Act.put, List.setIfInBounds_toArray, List.set_cons_zero, List.set_cons_succ])
          refine wpAnyH_take (i := 13) (v := ?_) rfl (by kernel_rfl) (by kernel_rfl) (by kernel_rfl) (fun _ _ _ h => h) (Or.inl ⟨by rfl, ?_⟩) hHeld ?_
          rotate_left
          · (intro w hSw; (try dsimp only at hSw); go_simp; (try with_reducible rfl))
          (try simp only [List.getElem_toArray, List.getElem_cons_succ, List.getElem_cons_zero, Act.put, List.setIfInBounds_toArray, List.set_cons_zero, List.set_cons_succ])
          refine wpAnyH_take (i := 14) (v := ?_) rfl (by kernel_rfl) (by kernel_rfl) (by kernel_rfl) (fun _ _ _ h => h) (Or.inl ⟨by rfl, ?_⟩) hHeld ?_
          rotate_left
          · (intro w hSw; (try dsimp only at hSw); go_simp; (try with_reducible rfl))
          (try simp only [List.getElem_toArray, List.getElem_cons_succ, List.getElem_cons_zero, Act.put, List.setIfInBounds_toArray, List.set_cons_zero, List.set_cons_succ])
          refine wpAnyH_take (i := 15) (v := ?_) rfl (by kernel_rfl) (by kernel_rfl) (by kernel_rfl) (fun _ _ _ h => h) (Or.inl ⟨by rfl, ?_⟩) hHeld ?_
          rotate_left
          · (intro w hSw; (try dsimp only at hSw); go_simp; (try with_reducible rfl))
          (try simp only [List.getElem_toArray, List.getElem_cons_succ, List.getElem_cons_zero, Act.put, List.setIfInBounds_toArray, List.set_cons_zero, List.set_cons_succ])
          refine wpAnyH_take (i := 18) (v := ?_) rfl (by kernel_rfl) (by kernel_rfl) (by kernel_rfl) (fun _ _ _ h => h) (Or.inl ⟨by rfl, ?_⟩) hHeld ?_
          rotate_left
          · (intro w hSw; (try dsimp only at hSw); go_simp; (try with_reducible rfl))
          (try simp only [List.getElem_toArray, List.getElem_cons_succ, List.getElem_cons_zero, Act.put, List.setIfInBounds_toArray, List.set_cons_zero, List.set_cons_succ])
          refine wpAnyH_ready (rs := [6]) (by kernel_rfl) (by simp) ?_
          refine AllReadyH.cons (o := _) rfl (fun K hK => ?_) ?_
          rotate_left
          · exact AllReadyH.nil
          rw [if_pos (by rfl)]
          unfold Oper.wp; go_simp
          refine hK.out _ _ ?_ (fun hHeld => ?_)
          · trivial
          clear hK K
          (try simp only [List.getElem_toArray, List.getElem_cons_succ, List.getElem_cons_zero, Act.put, List.setIfInBounds_toArray, List.set_cons_zero, List.set_cons_succ])
          have hT := row_take hx3 hqN
          rw [Nat.mul_one, u8s_take] at hT
          refine wpAnyH_ready (rs := [11]) (by kernel_rfl) (by simp) ?_
          refine AllReadyH.cons (o := _) rfl (fun K hK => ?_) ?_
          rotate_left
          · exact AllReadyH.nil
          rw [if_pos (by rfl)]
          refine wp_append_BR _ (.tmp 86) (.tmp 90) rfl w3.heap.size (.slice (some ⟨w3.heap.size, 0, none⟩) 0 0) 0 [] rfl (World.ownsRow_lit w3 #[] 0 (Nat.le_refl _) (Nat.zero_le _) rfl) _ _ (bs.take (5 * q)) rfl (hT.below (below_allocs1 w3 _)) (by rw [List.length_take, HBL.out]; omega) (by simp) (fun v5 w5 hown5 hg5 => ?_)
          refine hK.out _ _ ?_ (fun hHeld => ?_)
          · trivial
          clear hK K
          (try simp only [List.getElem_toArray, List.getElem_cons_succ, List.getElem_cons_zero, Act.put, List.setIfInBounds_toArray, List.set_cons_zero, List.set_cons_succ])
          have hR := row_drop hx3 hqN
          rw [u8s_drop] at hR
          have hq5 : Below w3.heap.size w3 w5 := ((Below.refl _ _).alloc (Nat.le_refl _) _).grown hg5 (by simp) (by intro k hk; simp [Value.ownBlock] at hk; subst hk; exact Nat.le_refl _)
          refine wpAnyH_ready (rs := [16]) (by kernel_rfl) (by simp) ?_
          refine AllReadyH.cons (o := _) rfl (fun K hK => ?_) ?_
          rotate_left
          · exact AllReadyH.nil
          rw [if_pos (by rfl)]
          refine wp_append_BR _ (.tmp 91) (.tmp 95) rfl w3.heap.size v5 _ _ rfl hown5 _ _ (bs.drop (5 * q)) rfl (hR.below hq5) (by simp only [Nat.zero_add]; rw [List.length_take, List.length_drop, HBL.out]; have := HN5.out; omega) hq5.size (fun v6 w6 hown6 hg6 => ?_)
          refine hK.out _ _ ?_ (fun hHeld => ?_)
          · trivial
          clear hK K
          (try simp only [List.getElem_toArray, List.getElem_cons_succ, List.getElem_cons_zero, Act.put, List.setIfInBounds_toArray, List.set_cons_zero, List.set_cons_succ])
          have hq6 : Below w3.heap.size w3 w6 := hq5.grown hg6 hq5.size (fun k hk => (hown5.lt k hk).1)
          have hb6 := hb3.trans (hq6.mono hb3.size)
          have hrow6 := hrow3.below hq6
          rw [List.nil_append, ← u8s_append, List.take_append_drop] at hown6
          rw [show 0 + (bs.take (5 * q)).length + (bs.drop (5 * q)).length = N from by rw [List.length_take, List.length_drop, HBL.out]; omega] at hown6
          obtain ⟨a6, c6, rfl, _⟩ := Ow.own_form hown6
          have hby6 := bytes_of_row (own_row hown6) HRNG.out
          refine wpAnyH_ready (rs := [17]) (by kernel_rfl) (by simp) ?_
          refine AllReadyH.cons (o := _) rfl (fun K hK => ?_) ?_
          rotate_left
          · exact AllReadyH.nil
          go_simp
          go_at_call 42; refine (HDD.out _ _ _ _ hby6).mono ?_; rintro z w7 ⟨v7, rfl, hd7, hq7⟩; rw [HALL.out] at hd7; have hrow7 := hrow6.below hq7; have hb7 := hb6.trans (hq7.mono hb6.size)
          refine hK.out _ _ ?_ (fun hHeld => ?_)
          · trivial
          clear hK K
          (try simp only [List.getElem_toArray, List.getElem_cons_succ, List.getElem_cons_zero, Act.put, List.setIfInBounds_toArray, List.set_cons_zero, List.set_cons_succ])
          refine wpAnyH_ready (rs := [19]) (by kernel_rfl) (by simp) ?_
          refine AllReadyH.cons (o := _) rfl (fun K hK => ?_) ?_
          rotate_left
          · exact AllReadyH.nil
          go_simp
          go_at_call 41; refine (same_yes _ _ _ _ gs _ hd7 hrow7).mono ?_; rintro z w8 ⟨rfl, hq8⟩; have hb8 := hb7.trans (hq8.mono hb7.size)
          refine hK.out _ _ ?_ (fun hHeld => ?_)
          · trivial
          clear hK K
          (try simp only [List.getElem_toArray, List.getElem_cons_succ, List.getElem_cons_zero, Act.put, List.setIfInBounds_toArray, List.set_cons_zero, List.set_cons_succ])
          refine wpAnyH_take (i := 20) (v := ?_) rfl (by kernel_rfl) (by kernel_rfl) (by kernel_rfl) (fun _ _ _ h => h) (Or.inl ⟨by rfl, ?_⟩) hHeld ?_
          rotate_left
          · (intro w hSw; (try dsimp only at hSw); go_simp; (try with_reducible rfl))
          (try simp only [List.getElem_toArray, List.getElem_cons_succ, List.getElem_cons_zero, Act.put, List.setIfInBounds_toArray, List.set_cons_zero, List.set_cons_succ])
          refine wpAnyH_take (i := 21) (v := ?_) rfl (by kernel_rfl) (by kernel_rfl) (by kernel_rfl) (fun _ _ _ h => h) (Or.inl ⟨by rfl, ?_⟩) hHeld ?_
          rotate_left
          · (intro w hSw; (try dsimp only at hSw); go_simp; (try with_reducible rfl))
          (try simp only [List.getElem_toArray, List.getElem_cons_succ, List.getElem_cons_zero, Act.put, List.setIfInBounds_toArray, List.set_cons_zero, List.set_cons_succ])
          refine wpAnyH_ready (rs := [22]) (by kernel_rfl) (by simp) ?_
          refine AllReadyH.cons (o := _) rfl (fun K hK => ?_) ?_
          rotate_left
          · exact AllReadyH.nil
          go_simp
          go_at_call 37; refine (awake_any _).mono ?_; rintro z w9 ⟨rfl, hq9⟩; have hb9 := hb8.trans (hq9.mono hb8.size)
          refine hK.out _ _ ?_ (fun hHeld => ?_)
          · trivial
          clear hK K
          (try simp only [List.getElem_toArray, List.getElem_cons_succ, List.getElem_cons_zero, Act.put, List.setIfInBounds_toArray, List.set_cons_zero, List.set_cons_succ])
          refine wpAnyH_take (i := 23) (v := ?_) rfl (by kernel_rfl) (by kernel_rfl) (by kernel_rfl) (fun _ _ _ h => h) (Or.inl ⟨by rfl, ?_⟩) hHeld ?_
          rotate_left
          · (intro w hSw; (try dsimp only at hSw); go_simp; (try with_reducible rfl))
          (try simp only [List.getElem_toArray, List.getElem_cons_succ, List.getElem_cons_zero, Act.put, List.setIfInBounds_toArray, List.set_cons_zero, List.set_cons_succ])
          refine wpAnyH_take (i := 24) (v := ?_) rfl (by kernel_rfl) (by kernel_rfl) (by kernel_rfl) (fun _ _ _ h => h) (Or.inl ⟨by rfl, ?_⟩) hHeld ?_
          rotate_left
          · (intro w hSw; (try dsimp only at hSw); go_simp; (try with_reducible rfl))
          (try simp only [List.getElem_toArray, List.getElem_cons_succ, List.getElem_cons_zero, Act.put, List.setIfInBounds_toArray, List.set_cons_zero, List.set_cons_succ])
          refine wpAnyH_done (by kernel_rfl) ?_ _
          clear hwr htn e5 hr5 iq0 iq1 iq2 iq4 iq5 iq6 hqN hd0 hN0
          unfold Exit.then
          dsimp only
          clear HS1 HDD hx hx3 hrow3 hT hown5 hg5 hR hq5 hg6 hq6 hb6 hrow6 hby6 hown6 hd7 hq7 hrow7 hb7 hq8 hb8 hq9 hb hrow1 hb3 HRNG HALL HBL HV HN HI HM hp p0 p1 iK0 iKN HN5
          go_wp2_with fail
          all_goals
            go_ret
            exact ⟨rfl, hb9⟩
end Go.Proofs.Ytplfhjahdepphaa.Plan
