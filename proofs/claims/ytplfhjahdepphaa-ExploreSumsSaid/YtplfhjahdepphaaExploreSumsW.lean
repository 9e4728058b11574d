/- ExploreSums: the walk: whatever lengths come in, the law answers true and writes nothing that was there. -/
import Derived.Test.YtplfhjahdepphaaExSumsP
import Derived.Test.YtplfhjahdepphaaSl
namespace Go.Proofs.Ytplfhjahdepphaa.Ex
open Go.ChangeShapes Go.WideShapes Go.ChangeAt Go.RowKit
set_option linter.unusedVariables false
set_option linter.unusedSimpArgs false
set_option maxRecDepth 100000

/-- What the first loop of ExploreSums keeps. -/
def S1Rel (w : World) (n : Nat) (s tot i : Value) (wr : World) : Prop :=
  ∃ (k : Nat) (L : List Nat), k ≤ n ∧ k ≤ 5 ∧ i = .int .i64 k ∧ L.length = k ∧ (∀ x ∈ L, x ≤ 5) ∧ tot = .int .i64 (sum L : Nat) ∧ wr.ownsRow w.heap.size 3 1 s k (nats L) ∧ Below w.heap.size w wr
/-- What its second loop keeps. -/
def S2Rel (w : World) (L : List Nat) (v : Value) (n : Nat) (acc i : Value) (wr : World) : Prop :=
  ∃ k : Nat, k ≤ n ∧ i = .int .i64 k ∧ acc = .int .i64 (sum ((leftL L).take k) : Nat) ∧ wr.ownsRow w.heap.size 3 1 v n (nats L) ∧ Below w.heap.size w wr

theorem sum5 (L : List Nat) (h : ∀ x ∈ L, x ≤ 5) : sum L ≤ 5 * L.length := by
  have := sum_le L 5 h L.length
  rwa [List.take_of_length_le (Nat.le_refl _)] at this

set_option maxHeartbeats 4000000 in
theorem sums_law (a : Option Addr) (len cap : Nat) (zs : List Int) (w : World) (hr : Sl.IsRow .i64 w a len cap zs) :
    Calls Try.prog 15 #[.slice a len cap] w fun e w' => e = .returned (.bool true) ∧ Below w.heap.size w w' := by
  obtain ⟨hl, hlc, hcm, hcell⟩ := hr.plain
  generalize zs.take len = zl at hl hcell
  clear hr
  go_enter Try.func15, Try.ntmps15
  go_wp2
  go_loopw [3, 4, 5] (fun s tot i wr => S1Rel w len s tot i wr) (fun _ _ i _ => len - (intOf i).toNat)
  case atStart => exact ⟨0, [], by omega, by omega, rfl, rfl, by simp, rfl, World.ownsRow_nil _ _ _ _, Below.refl _ _⟩
  case round =>
    obtain ⟨k, L, hkn, hk5, rfl, hLl, hL5, rfl, hown, hb⟩ := hrel
    by_cases hlt : k < len ∧ k < 5
    · obtain ⟨h1, h2⟩ := hlt
      rcases hcell with h0 | ⟨g, off, rfl, hg, hcell⟩
      · omega
      have c := (hcell k h1).1
      replace c := (hb.cell (p := ⟨g, off + k, none⟩) hg).trans c
      generalize zl.getD k 0 = z at c
      obtain ⟨p, hp⟩ : ∃ p, bits .and .i64 z 255 = p := ⟨_, rfl⟩
      have p0 : 0 ≤ p := by rw [← hp, Bt.i64_and255]; omega
      have p1 : p < 256 := by rw [← hp, Bt.i64_and255]; omega
      obtain ⟨x, hx⟩ : ∃ x : Nat, p % 6 = (x : Int) := ⟨(p % 6).toNat, by omega⟩
      have hx5 : x ≤ 5 := by omega
      have i1 : (0 : Int) ≤ (k : Int) := by omega
      have i2 : (k : Int) < (len : Int) := by omega
      have i3 : (k : Int) < 5 := by omega
      have hs5 := sum5 L hL5
      have hsz := hb.size
      obtain ⟨a2, cap2, rfl, hn2, hm2, -⟩ := Ow.own_form hown
      have HL5 := Lib.hid hL5
      have HLL := Lib.hid hLl
      have HSM : Hid (sum (L ++ [x]) = sum L + x) := by show _ = _; rw [sum_append]; simp [sum]
      have hsb : sum L ≤ 25 := by omega
      have HN : Hid (nats (L ++ [x]) = nats L ++ nats [x]) := nats_append _ _
      have HGET : Hid ((nats (L ++ [x]))[k]? = some (.int .i64 (x : Int))) := by
        show _ = _
        rw [nats_get _ _ (by rw [List.length_append]; simp; omega), List.getD_eq_getElem?_getD, List.getElem?_append_right (by omega), hLl, Nat.sub_self]; rfl
      have hsI : (sum L : Int) ≤ 25 := by omega
      generalize sum L = S at *
      clear hcell hs5 hL5 hLl
      go_wp2_with (at_builtin; refine append_IR _ rfl (.tmp 20) (.tmp 27) rfl w.heap.size (.slice a2 k cap2) k _ rfl (hown.alloc _) _ _ (nats [x]) rfl (row_lit wr #[.int .i64 (x : Int)] _ 1 rfl (by omega)) (oneCell_nats _) ?hn ?hb ?_)
      case hn => rw [nats_length]; simp; omega
      case hb => first | omega | (simp; omega)
      intro v' w2 hown2 hg2
      have hb2 : Below w.heap.size w w2 := Ow.grown_below (hown.alloc _) (hb.alloc hsz _) (by simp; omega) hg2
      rw [← HN.out, show k + (nats [x]).length = k + 1 from rfl] at hown2
      obtain ⟨g3, cap3, rfl, hg3, hg3'⟩ := hown2.form (by omega)
      have xc := (hown2.cellAt k (by omega)).trans HGET.out
      have HFIN : Hid (S1Rel w len (.slice (some ⟨g3, 0, none⟩) (k + 1) cap3) (.int .i64 ((S + x : Nat) : Int)) (.int .i64 ((k + 1 : Nat) : Int)) w2) :=
        ⟨k + 1, L ++ [x], by omega, by omega, rfl, by rw [List.length_append, HLL.out]; rfl, fun y hy => by
          rcases List.mem_append.1 hy with hy | hy
          · exact HL5.out y hy
          · simp at hy; omega, by rw [HSM.out], hown2, hb2⟩
      have i6 : (0 : Int) ≤ (k : Int) + 1 := by omega
      clear hown hown2 hg2 hb2 hb
      go_wp2_with fail
      exact ⟨by first | exact HFIN.out | (have h := HFIN.out; push_cast at h; exact h), by simp [intOf]; omega⟩
    · have hs5 := sum5 L hL5
      have hs25 : sum L ≤ 25 := by omega
      obtain ⟨a2, cap2, rfl, hn2, hm2, -⟩ := Ow.own_form hown
      have hrow := Plan.row_weak (Plan.own_row hown) (Nat.zero_le _)
      have HCT := Lib.hid (fun W h => count_any (.slice a2 k cap2) L (by omega) (fun x hx => by have := hL5 x hx; omega) W h)
      have hpos := cnt_pos L
      have hstop : ¬ ((k : Int) < (len : Int)) ∨ ((k : Int) < (len : Int) ∧ ¬ ((k : Int) < 5)) := by omega
      have HL5 := Lib.hid hL5
      have HLL := Lib.hid hLl
      have HOWN := Lib.hid hown
      obtain ⟨S, hS⟩ : ∃ S, sum L = S := ⟨_, rfl⟩
      have HS := Lib.hid hS
      rw [hS] at hs25 ⊢
      clear hL5 hLl hown hcell hs5 hlt hS
      rcases hstop with h1 | ⟨h1, h2⟩
      all_goals
        by_cases h12 : 12 < S
        · have h12I : (12 : Int) < (S : Int) := by omega
          rcases hpos with hp | hp
          · generalize cnt L = c at *
            go_wp2_with fail
            refine (HCT.out _ hrow).mono ?_
            rintro z w1 ⟨rfl, rfl⟩
            clear hrow
            go_wp2_with (go_at_call 49; refine (awake_any _).mono ?_; rintro e w9 ⟨rfl, hq9⟩; replace hb := hb.trans (hq9.mono hb.size))
            go_ret
            exact ⟨rfl, hb⟩
          · rw [hp] at HCT
            go_wp2_with fail
            refine (HCT.out _ hrow).mono ?_
            rintro z w1 ⟨rfl, rfl⟩
            clear hrow
            go_wp2_with (go_at_call 49; refine (awake_any _).mono ?_; rintro e w9 ⟨rfl, hq9⟩; replace hb := hb.trans (hq9.mono hb.size))
            go_ret
            exact ⟨rfl, hb⟩
        · have hD : D5 L := ⟨by rw [HLL.out]; omega, HL5.out, by rw [HS.out]; omega⟩
          have h12I : (S : Int) ≤ 12 := by omega
          obtain ⟨-, hc7, hc0, hcs⟩ := d5_cnt hD
          rw [d5_cntI hD] at HCT
          rw [HS.out] at hc0 hcs
          by_cases hz : S = 0
          · subst hz
            rw [hc0 rfl] at HCT
            have HC1 : Hid (∀ W, Ow.Row W 0 1 (.slice a2 k cap2) (nats L) → Calls Try.prog 48 #[.slice a2 k cap2] W fun e w' => e = .returned (.int .i64 1) ∧ W = w') := HCT.out
            go_wp2_with fail
            refine (HC1.out _ hrow).mono ?_
            rintro z w1 ⟨rfl, rfl⟩
            clear hrow
            go_wp2_with (go_at_call 49; refine (awake_any _).mono ?_; rintro e w9 ⟨rfl, hq9⟩; replace hb := hb.trans (hq9.mono hb.size))
            go_ret
            exact ⟨rfl, hb⟩
          · have hzb : ((S : Int) == 0) = false := by simp; omega
            have HCS := Lib.hid (hcs hz)
            have hk0 : 0 < k := by
              rcases Nat.eq_zero_or_pos k with h | h
              · exfalso
                have h3 := HLL.out
                rw [h] at h3
                have : L = [] := List.eq_nil_of_length_eq_zero h3
                have h4 := HS.out
                rw [this] at h4
                exact hz h4.symm
              · exact h
            obtain ⟨g, capg, hvg, hg, hg'⟩ := HOWN.out.form hk0
            simp only [Value.slice.injEq, true_and] at hvg
            obtain ⟨rfl, rfl⟩ := hvg
            clear hc0 hcs hpos
            generalize hcN : cN L = C at *
            have hCI : (C : Int) ≤ 10000000 := by omega
            go_wp2_with fail
            refine (HCT.out _ hrow).mono ?_
            rintro z w1 ⟨rfl, rfl⟩
            have hb0 := hb
            clear hrow hb
            go_wp2_with fail
            go_loopw [7, 8] (fun acc i w3 => S2Rel w L (.slice (some ⟨g, 0, none⟩) k cap2) k acc i w3) (fun _ i _ => k - (intOf i).toNat)
            case atStart => exact ⟨0, by omega, rfl, rfl, HOWN.out, hb0⟩
            case round =>
              obtain ⟨j, hjk, rfl, rfl, hown, hb⟩ := hrel
              by_cases hjl : j < k
              · have j1 : (0 : Int) ≤ (j : Int) := by omega
                have j2 : (j : Int) < (k : Int) := by omega
                have hjL : j < L.length := by rw [HLL.out]; exact hjl
                have c := (hown.cellAt j (by omega)).trans (nats_get L j hjL)
                have hx5 : L.getD j 0 ≤ 5 := by
                  rw [List.getD_eq_getElem?_getD, List.getElem?_eq_getElem hjL]
                  exact HL5.out _ (List.getElem_mem _)
                have hst1 := sum_take (leftL L) j (by rw [leftL_length]; exact hjL)
                rw [leftL_get L j hjL] at hst1
                have hDl := d5_lset hD j
                have hcl := (d5_cnt hDl).2.1
                have HCN := Lib.hid (d5_cntI hDl)
                have HDL := Lib.hid hDl
                have hle : sum ((leftL L).take j) ≤ 10000000 * j := sum_le (leftL L) 10000000 (fun x hx => by
                  unfold leftL at hx
                  rw [List.mem_map] at hx
                  obtain ⟨i, _, rfl⟩ := hx
                  split
                  · omega
                  · exact (d5_cnt (d5_lset hD i)).2.1) j
                have hle2 : sum ((leftL L).take j) ≤ 50000000 := Nat.le_trans hle (by omega)
                have HST1 := Lib.hid hst1
                have HX : Hid ((nats L)[j]? = some (.int .i64 ((L.getD j 0 : Nat) : Int))) := nats_get L j hjL
                have HSET : Hid (∀ x, L.getD j 0 = x → 1 ≤ x → (nats L).set j (.int .i64 ((x : Int) - 1)) = nats (lset L j)) := by
                  intro x hx h1
                  unfold lset nats
                  rw [List.map_set]
                  congr 1
                  rw [hx]
                  have : ((x - 1 : Nat) : Int) = (x : Int) - 1 := by omega
                  rw [this]
                obtain ⟨x, hx⟩ : ∃ x, L.getD j 0 = x := ⟨_, rfl⟩
                have HGX := Lib.hid hx
                rw [hx] at c hx5 HX hst1
                obtain ⟨T, hT⟩ : ∃ T, sum ((leftL L).take j) = T := ⟨_, rfl⟩
                have HT := Lib.hid hT
                rw [hT] at hle2 hst1 ⊢
                have hTI : (T : Int) ≤ 50000000 := by omega
                obtain ⟨c2, hc2⟩ : ∃ c2, cN (lset L j) = c2 := ⟨_, rfl⟩
                rw [hc2] at HCN hcl hst1
                have hc2I : (c2 : Int) ≤ 10000000 := by clear hst1; omega
                clear hx hT hle hDl
                by_cases hx0 : x = 0
                · subst hx0
                  rw [if_pos rfl] at hst1
                  have HFIN : Hid (S2Rel w L (.slice (some ⟨g, 0, none⟩) k cap2) k (.int .i64 (T : Int)) (.int .i64 ((j + 1 : Nat) : Int)) wr) :=
                    ⟨j + 1, by omega, rfl, by rw [hst1]; rfl, hown, hb⟩
                  have c' : wr.cell? ⟨g, j, none⟩ = some (.int .i64 0) := c
                  clear hst1 hown hb c hc2
                  go_wp2_with fail
                  exact ⟨by first | exact HFIN.out | (have h := HFIN.out; push_cast at h; exact h), by simp [intOf]; omega⟩
                · rw [if_neg hx0] at hst1
                  have x1 : (0 : Int) < (x : Int) := by omega
                  have x5 : (x : Int) ≤ 5 := by omega
                  have HRW := Lib.hid (Plan.own_row hown)
                  have hsz := hb.size
                  have HOW2 := Lib.hid hown
                  clear hown hc2
                  go_wp2_with (at_builtin; refine append_IR _ rfl (.tmp 66) (.tmp 67) rfl wr.heap.size (.slice (some ⟨wr.heap.size, 0, none⟩) 0 0) 0 [] rfl (World.ownsRow_lit wr #[] 0 (Nat.le_refl _) (Nat.zero_le _) rfl) _ _ (nats L) rfl (HRW.out.below (Plan.below_allocs1 wr _)) (oneCell_nats L) ?hn ?hb ?_)
                  case hn => rw [nats_length, HLL.out]; omega
                  case hb => simp
                  intro v6 w6 hown6 hg6
                  have hq : Below wr.heap.size wr w6 := ((Below.refl _ _).alloc (Nat.le_refl _) _).grown hg6 (by simp) (by intro k hk; simp [Value.ownBlock] at hk; subst hk; exact Nat.le_refl _)
                  try simp only [nats_length, HLL.out, Nat.zero_add, List.nil_append] at hown6
                  obtain ⟨g1, cap1, rfl, hg1, hg1'⟩ := hown6.form hk0
                  have xc : w6.cell? ⟨g1, j, none⟩ = some (.int .i64 (x : Int)) := (hown6.cellAt j (by omega)).trans HX.out
                  have xf := hown6.frozenAt j
                  have hst := (hown6.stored j (.int .i64 ((x : Int) - 1))).1
                  rw [HSET.out x HGX.out (by omega)] at hst
                  have hrow2 := Plan.row_weak (Plan.own_row hst) (Nat.zero_le _)
                  have hb2 : Below wr.heap.size wr (w6.setCell ⟨g1, j, none⟩ (.int .i64 ((x : Int) - 1))) := hq.setCell (by show wr.heap.size ≤ g1; exact hg1) _
                  have hown7 := Ow.own_below HOW2.out hb2
                  have hbel2 := Ow.below_base hb hb2
                  clear hst hq hb hg1 hg6 hown6 hb2
                  go_wp2_with fail
                  clear xc xf
                  generalize w6.setCell ⟨g1, j, none⟩ (.int .i64 ((x : Int) - 1)) = w8 at *
                  refine (count_any _ (lset L j) (by rw [lset_length, HLL.out]; omega) (fun z hz => by have := HDL.out.2.1 z hz; omega) _ hrow2).mono ?_
                  rintro z w9 ⟨rfl, rfl⟩
                  rw [HCN.out]
                  have HFIN : Hid (S2Rel w L (.slice (some ⟨g, 0, none⟩) k cap2) k (.int .i64 ((T + c2 : Nat) : Int)) (.int .i64 ((j + 1 : Nat) : Int)) w8) :=
                    ⟨j + 1, by omega, rfl, by rw [hst1], hown7, hbel2⟩
                  clear hown7 hbel2 hrow2 hst1
                  go_wp2_with fail
                  exact ⟨by first | exact HFIN.out | (have h := HFIN.out; push_cast at h; exact h), by simp [intOf]; omega⟩
              · obtain rfl : j = k := by omega
                have HF : Hid (sum ((leftL L).take j) = C) := by
                  show _ = _
                  rw [List.take_of_length_le (by rw [leftL_length, HLL.out]; exact Nat.le_refl _)]
                  exact HCS.out
                rw [HF.out]
                have HCZ : Hid (∀ v W, Ow.Row W 0 1 v (nats (L ++ [0])) → Calls Try.prog 48 #[v] W fun e w' => e = .returned (.int .i64 (C : Int)) ∧ W = w') := by
                  intro v W h
                  have := count_any v (L ++ [0]) (by rw [List.length_append, HLL.out]; simp; omega) (fun x hx => by
                    rcases List.mem_append.1 hx with hx | hx
                    · have := HL5.out x hx; omega
                    · simp at hx; omega) W h
                  rw [cnt_zero, d5_cntI hD, hcN] at this
                  exact this
                have HRW := Lib.hid (Plan.own_row hown)
                have hsz := hb.size
                clear hown hjl hb0
                go_wp2_with (at_builtin; refine Ow.wpList_unguard (by rfl) ?_; refine append_IR _ rfl (.tmp 83) (.tmp 84) rfl wr.heap.size (.slice (some ⟨wr.heap.size, 0, none⟩) 0 0) 0 [] rfl (World.ownsRow_lit wr #[] 0 (Nat.le_refl _) (Nat.zero_le _) rfl) _ _ (nats L) rfl (HRW.out.below (Plan.below_allocs1 wr _)) (oneCell_nats L) ?hn ?hb ?_)
                case hn => rw [nats_length, HLL.out]; omega
                case hb => simp
                intro v6 w6 hown6 hg6
                have hq : Below wr.heap.size wr w6 := ((Below.refl _ _).alloc (Nat.le_refl _) _).grown hg6 (by simp) (by intro k hk; simp [Value.ownBlock] at hk; subst hk; exact Nat.le_refl _)
                try simp only [nats_length, HLL.out, Nat.zero_add, List.nil_append] at hown6
                have hb6 := Ow.below_base hb hq
                have hsz6 := hq.size
                clear hb hg6 hq
                go_wp2_with (at_builtin; refine Ow.wpList_unguard (by rfl) ?_; refine append_IR _ rfl (.tmp 85) (.tmp 86) rfl wr.heap.size v6 j (nats L) rfl (hown6.alloc _) _ _ (nats [0]) rfl (row_lit w6 #[.int .i64 0] _ 1 rfl (by omega)) (oneCell_nats _) ?hn ?hb ?_)
                case hn => rw [nats_length]; simp; omega
                case hb => first | omega | (simp; omega)
                intro v7 w7 hown7 hg7
                have hb7 : Below w.heap.size w w7 := (hb6.alloc hb6.size _).grown hg7 (by simp; omega) (fun k hk => by have := (hown6.lt k hk).1; omega)
                rw [← nats_append] at hown7
                have hrow7 := Plan.row_weak (Plan.own_row hown7) (Nat.zero_le _)
                clear hown6 hb6 hg7 hown7
                go_wp2_with fail
                refine (HCZ.out _ _ hrow7).mono ?_
                rintro z w8 ⟨rfl, rfl⟩
                have hb := hb7
                clear hrow7 hb7
                go_wp2_with (go_at_call 49; refine (awake_any _).mono ?_; rintro e w9 ⟨rfl, hq9⟩; replace hb := hb.trans (hq9.mono hb.size))
                go_ret
                exact ⟨rfl, hb⟩
end Go.Proofs.Ytplfhjahdepphaa.Ex
