/- PlanEncodes: the walk: whatever entries come in, the law answers true and writes nothing that was there. -/
import Derived.Test.YtplfhjahdepphaaPlanQ
namespace Go.Proofs.Ytplfhjahdepphaa.Plan
open Go.ChangeShapes Go.WideShapes Go.ChangeAt Go.RowKit
set_option linter.unusedVariables false
set_option linter.unusedSimpArgs false
set_option maxRecDepth 100000


theorem plan_ok (e : En) (hi : I64 e) (b : Bool) (hb : b = true ↔ V e) (w : World) : Calls Try.prog 46 #[enV e] w fun z w' => z = .returned (.bool b) ∧ Below w.heap.size w w' := by
  cases b
  · exact ok_nv e (fun h => by simpa using hb.2 h) hi w
  · exact ok_v e (hb.1 rfl) w

/-- What the loop of PlanEncodes keeps. -/
def PEncRel (w : World) (es : List En) (k : Nat) (g v i : Value) (wr : World) : Prop :=
  k ≤ es.length ∧ i = .int .i64 k ∧ (∃ b : Bool, g = .bool b ∧ (b = true ↔ ∀ e ∈ es.take k, V e)) ∧ wr.ownsRow w.heap.size 5 1 v (5 * k) (u8s (rbytesL (es.take k))) ∧ Below w.heap.size w wr

set_option maxHeartbeats 4000000 in
theorem encodes_law (v : Value) (es : List En) (w : World) (hi : ∀ e ∈ es, I64 e) (hr : Ow.Row w 0 7 v (flatE es)) :
    Calls Try.prog 14 #[v] w fun e w' => e = .returned (.bool true) ∧ Below w.heap.size w w' := by
  have HR := Lib.hid hr
  obtain ⟨a, n, cap, rfl, hn, hc, hm, ha⟩ := hr
  rw [flatE_length] at hn
  obtain rfl : n = es.length := by omega
  obtain ⟨n, hlen⟩ : ∃ n, es.length = n := ⟨_, rfl⟩
  have HN := Lib.hid hlen
  rw [hlen] at hc ha HR ⊢
  have HI := Lib.hid hi
  clear hn hm hlen hi
  by_cases h300 : n ≤ 300
  · have hl1 : (n : Int) ≤ 300 := by omega
    go_enter Try.func14, Try.ntmps14
    go_wp2
    go_loopw [3, 4, 5] (fun g v i wr => ∃ k, PEncRel w es k g v i wr) (fun _ _ i _ => n - (intOf i).toNat)
    case atStart => exact ⟨0, by omega, rfl, ⟨true, rfl, by simp⟩, World.ownsRow_nil _ _ _ _, Below.refl _ _⟩
    case round =>
      obtain ⟨k, hk, rfl, ⟨b, rfl, hbv⟩, hown, hbel⟩ := hrel
      have hkn : k ≤ n := by rw [HN.out] at hk; exact hk
      obtain ⟨a2, cap2, rfl, hn2, hm2, hrow⟩ := Ow.own_form hown
      by_cases hlt : k < n
      · rcases ha with ha | ⟨g, off, rfl, _, hg, hcell⟩
        · omega
        have i1 : (0 : Int) ≤ (k : Int) := by omega
        have i2 : (k : Int) < (n : Int) := by omega
        have hN := HN.out
        have cA := row_cell (l := es) (fun j hj => hcell j (by omega)) k (by omega) badE
        have hget : es.getD k badE = es[k]'(by omega) := by simp [List.getD_eq_getElem?_getD, List.getElem?_eq_getElem (show k < es.length by omega)]
        have htake : es.take (k + 1) = es.take k ++ [es.getD k badE] := by rw [hget, List.take_succ_eq_append_getElem (by omega)]
        have hmem : es.getD k badE ∈ es := by rw [hget]; exact List.getElem_mem _
        have hEi := HI.out _ hmem
        generalize es.getD k badE = E at *
        have HLE := Lib.hid (show k + 1 ≤ es.length by omega)
        have hE : rbytesL (es.take (k + 1)) = rbytesL (es.take k) ++ [(E.k - 1) % 256, E.s % 256, r2 E, r3 E, r4 E] := by rw [htake, rbytesL_snoc]; rfl
        have HE := Lib.hid hE
        have hok := rok_any E
        have hvb : ∃ c : Bool, (c = true ↔ V E) := by
          by_cases h : V E
          · exact ⟨true, by simp [h]⟩
          · exact ⟨false, by simp [h]⟩
        obtain ⟨c, hcv⟩ := hvb
        have HO1 : Hid (∀ W, Calls Try.prog 44 #[enV E] W fun z w' => z = .returned (.bool c) ∧ Below W.heap.size W w') := by
          intro W
          obtain ⟨b', hb', hcall⟩ := hok W
          have : b' = c := by
            cases b' <;> cases c <;> simp_all
          rw [← this]; exact hcall
        have HO2 := Lib.hid (fun W => plan_ok E hEi c hcv W)
        have HB := Lib.hid (fun W => rbytes_any E W)
        have hbc : (b && c) = true ↔ ∀ e ∈ es.take (k + 1), V e := by
          rw [Bool.and_eq_true, hbv, hcv, htake]
          constructor
          · rintro ⟨h1, h2⟩ e he
            rcases List.mem_append.1 he with he | he
            · exact h1 e he
            · simp at he; subst he; exact h2
          · intro h
            exact ⟨fun e he => h e (List.mem_append.2 (.inl he)), h E (List.mem_append.2 (.inr (by simp)))⟩
        have HC := Lib.hid hbc
        clear hbc hcv hok hEi hmem htake hget hN hE hbv hrow
        generalize (E.k - 1) % 256 = b0 at *
        generalize E.s % 256 = b1 at *
        generalize r2 E = b2 at *
        generalize r3 E = b3 at *
        generalize r4 E = b4 at *
        obtain ⟨ek, es', elv, eok, eoy, eoh, eov⟩ := E
        have kA : ∀ f, f < 7 → wr.cell? ⟨g, off + (k * 7 + f), none⟩ = (cellsE ⟨ek, es', elv, eok, eoy, eoh, eov⟩)[f]? := fun f hf => by rw [hbel.cell (p := ⟨g, off + (k * 7 + f), none⟩) hg]; exact cA f hf
        clear cA hcell
        have hgr : g < wr.heap.size := Nat.lt_of_lt_of_le hg hbel.size
        have a0 := kA 0 (by omega)
        have a1 := kA 1 (by omega)
        have a2' := kA 2 (by omega)
        have a3 := kA 3 (by omega)
        have a4 := kA 4 (by omega)
        have a5 := kA 5 (by omega)
        have a6 := kA 6 (by omega)
        clear kA
        simp only [Nat.add_zero, ← Nat.add_assoc] at a0 a1 a2' a3 a4 a5 a6
        simp only [cellsE, List.getElem?_cons_zero, List.getElem?_cons_succ] at a0 a1 a2' a3 a4 a5 a6
        go_wp2_with fail
        refine (HO1.out _).mono ?_
        rintro z w1 ⟨rfl, hq⟩
        have hbel1 := Ow.below_base hbel hq
        have hown1 := Ow.own_below hown hq
        replace a0 := (hq.cell (p := ⟨g, off + k * 7, none⟩) hgr).trans a0
        replace a1 := (hq.cell (p := ⟨g, off + k * 7 + 1, none⟩) hgr).trans a1
        replace a2' := (hq.cell (p := ⟨g, off + k * 7 + 2, none⟩) hgr).trans a2'
        replace a3 := (hq.cell (p := ⟨g, off + k * 7 + 3, none⟩) hgr).trans a3
        replace a4 := (hq.cell (p := ⟨g, off + k * 7 + 4, none⟩) hgr).trans a4
        replace a5 := (hq.cell (p := ⟨g, off + k * 7 + 5, none⟩) hgr).trans a5
        replace a6 := (hq.cell (p := ⟨g, off + k * 7 + 6, none⟩) hgr).trans a6
        have hgr1 : g < w1.heap.size := Nat.lt_of_lt_of_le hgr hq.size
        clear hown hbel hq hgr
        go_wp2_with fail
        refine (HO2.out _).mono ?_
        rintro z w2 ⟨rfl, hq⟩
        have hbel2 := Ow.below_base hbel1 hq
        have hown2 := Ow.own_below hown1 hq
        replace a0 := (hq.cell (p := ⟨g, off + k * 7, none⟩) hgr1).trans a0
        replace a1 := (hq.cell (p := ⟨g, off + k * 7 + 1, none⟩) hgr1).trans a1
        replace a2' := (hq.cell (p := ⟨g, off + k * 7 + 2, none⟩) hgr1).trans a2'
        replace a3 := (hq.cell (p := ⟨g, off + k * 7 + 3, none⟩) hgr1).trans a3
        replace a4 := (hq.cell (p := ⟨g, off + k * 7 + 4, none⟩) hgr1).trans a4
        replace a5 := (hq.cell (p := ⟨g, off + k * 7 + 5, none⟩) hgr1).trans a5
        replace a6 := (hq.cell (p := ⟨g, off + k * 7 + 6, none⟩) hgr1).trans a6
        clear hown1 hbel1 hq hgr1
        have hcc : (c != c) = false := by cases c <;> rfl
        have hbc : (b && c) = (if b = true then c else false) := by cases b <;> rfl
        cases b
        all_goals
          go_wp2_with fail
          refine (HB.out _).mono ?_
          rintro z w3 ⟨g1, rfl, hg1, hg1', hq, x0, x1, x2, x3, x4⟩
          have hbel3 := Ow.below_base hbel2 hq
          have hown3 := Ow.own_below hown2 hq
          have hsz := hbel3.size
          clear hown2 hbel2 hq a0 a1 a2' a3 a4 a5 a6
          go_wp2_with (at_builtin; refine append_B _ rfl (.tmp 35) (.tmp 40) rfl w.heap.size (.slice a2 (5 * k) cap2) (5 * k) _ rfl hown3 ⟨g1, 0, none⟩ 5 5 (u8s [b0, b1, b2, b3, b4]) rfl rfl (five_cells x0 x1 x2 x3 x4) (oneCell_u8s _) (by omega) (by omega) ?_)
          intro v' w4 hown4 hg4
          have hbel4 : Below w.heap.size w w4 := Ow.grown_below hown3 hbel3 hsz hg4
          rw [← u8s_append, ← HE.out, show 5 * k + 5 = 5 * (k + 1) from by omega] at hown4
          clear hg4 hown3 hbel3 x0 x1 x2 x3 x4
          go_wp2_with fail
          exact ⟨⟨k + 1, HLE.out, by go_num, ⟨_, rfl, HC.out⟩, hown4, hbel4⟩, by simp [intOf]; omega⟩
      · obtain rfl : k = n := by omega
        have hN := HN.out
        rw [List.take_of_length_le (by omega)] at hbv hrow
        have HE := Lib.hid (fun W h => encode_any (.slice a k cap) es HI.out (by omega) W h)
        have hb := hbel
        have hrl := (HR.out).below hbel
        have hr5 : Ow.Row wr w.heap.size 1 (.slice a2 (5 * k) cap2) (u8s (rbytesL es)) := by
          obtain ⟨a', n', cap', he, h2, h3, h4, h5⟩ := hrow
          simp only [Value.slice.injEq] at he
          obtain ⟨rfl, rfl, rfl⟩ := he
          exact ⟨a2, 5 * k, cap2, rfl, h2, hn2, by unfold maxLen; omega, h5⟩
        clear hown hrow hlt hN ha
        have hL := HN.out
        have hall : b = true → ∀ e ∈ es, V e := fun h => hbv.1 h
        have hnot : b = false → ¬ ∀ e ∈ es, V e := fun h h2 => by have := hbv.2 h2; simp_all
        have HA := Lib.hid hall
        have HO := Lib.hid hnot
        clear hall hnot hbv
        go_wp2_with fail
        refine (HE.out _ hrl).mono ?_
        rintro z w1 ⟨hq, h⟩
        have hrl1 := hrl.below hq
        have hr51 := hr5.below hq
        replace hb := hb.trans (hq.mono hb.size)
        rcases h with ⟨hv, x, rfl, hx⟩ | ⟨hv, rfl⟩
        · have hbt : b = true := by
            cases b
            · exact absurd hv (HO.out rfl)
            · rfl
          subst hbt
          obtain ⟨ax, nx, cx, rfl, _⟩ := row_slice hx (by omega)
          have s1 := run_str hx
          have s2 := run_str hr51
          rw [rbytesL_v es hv] at s2
          have hby := bytes_of_row hx (bytesL_range es hv)
          have HD := Lib.hid (fun W h => decode_any ax nx cx (bytesL es) W h)
          rw [dec_bytesL es 2000 hv (by omega)] at HD
          clear hq hr5 hr51 hrl hv hx HE HA HO hL
          go_wp2_with fail
          refine (HD.out _ hby).mono ?_
          rintro z w2 ⟨v2, rfl, hrow2, hq⟩
          have hrl2 := hrl1.below hq
          replace hb := hb.trans (hq.mono hb.size)
          clear hq HD hby s1 s2 hrl1
          go_wp2_with fail
          refine (same_yes v2 _ _ _ es _ hrow2 hrl2).mono ?_
          rintro z w3 ⟨rfl, hq⟩
          replace hb := hb.trans (hq.mono hb.size)
          clear hq hrow2 hrl2
          go_wp2_with (go_at_call 37; refine (awake_any _).mono ?_; rintro e w7 ⟨rfl, hq⟩; replace hb := hb.trans (hq.mono hb.size))
          go_ret
          exact ⟨rfl, hb⟩
        · have hbt : b = false := by
            cases b
            · rfl
            · exact absurd (HA.out rfl) hv
          subst hbt
          clear hq hr5 hr51 hrl hv HE HA HO hL hrl1
          go_wp2_with (go_at_call 37; refine (awake_any _).mono ?_; rintro e w7 ⟨rfl, hq⟩; replace hb := hb.trans (hq.mono hb.size))
          go_ret
          exact ⟨rfl, hb⟩
  · have h0 : (300 : Int) < (n : Int) := by omega
    have hb : Below w.heap.size w w := Below.refl _ _
    clear ha
    go_enter Try.func14, Try.ntmps14
    go_wp2_with (go_at_call 37; refine (awake_any _).mono ?_; rintro e w7 ⟨rfl, hq⟩; replace hb := hb.trans (hq.mono hb.size))
    go_ret
    exact ⟨rfl, hb⟩
end Go.Proofs.Ytplfhjahdepphaa.Plan
