/- PlanBounds: the walk: whatever numbers come in, the law answers true and writes nothing that was there. -/
import Derived.Test.YtplfhjahdepphaaPlanR
namespace Go.Proofs.Ytplfhjahdepphaa.Plan
open Go.ChangeShapes Go.WideShapes Go.ChangeAt Go.RowKit
set_option linter.unusedVariables false
set_option linter.unusedSimpArgs false
set_option maxRecDepth 100000

/-- What the loop of PlanBounds keeps. -/
def BoRel (w : World) (E : En) (N k : Nat) (v i : Value) (wr : World) : Prop :=
  k ≤ N ∧ i = .int .i64 k ∧ wr.ownsRow w.heap.size 47 7 v k (flatE (List.replicate k E)) ∧ Below w.heap.size w wr

set_option maxHeartbeats 4000000 in
theorem bounds_law (n s : Int) (hnw : (Lit.int .i64 n).wf = true) (hsw : (Lit.int .i64 s).wf = true) (w : World) :
    Calls Try.prog 13 #[.int .i64 n, .int .i64 s] w fun e w' => e = .returned (.bool true) ∧ Below w.heap.size w w' := by
  clear hnw hsw
  obtain ⟨n', hn⟩ : ∃ n', bits .and .i64 n 15 = n' := ⟨_, rfl⟩
  obtain ⟨s', hs⟩ : ∃ s', bits .and .i64 s 7 = s' := ⟨_, rfl⟩
  have n0 : 0 ≤ n' := by rw [← hn, Bt.i64_and15]; omega
  have n1 : n' < 16 := by rw [← hn, Bt.i64_and15]; omega
  have s0 : 0 ≤ s' := by rw [← hs, Bt.i64_and7]; omega
  have s1 : s' < 8 := by rw [← hs, Bt.i64_and7]; omega
  obtain ⟨N, hN⟩ : ∃ N : Nat, n' = (N : Int) - 1992 := ⟨(n' + 1992).toNat, by omega⟩
  subst hN
  have N0 : 1992 ≤ N := by omega
  have N1 : N ≤ 2007 := by omega
  have hV : V ⟨3, s', 0, 0, 0, 0, 0⟩ := V.mk ⟨s0, by omega, .inr (.inr (.inl ⟨rfl, rfl, rfl, rfl, rfl, rfl⟩))⟩
  have hI : I64 ⟨3, s', 0, 0, 0, 0, 0⟩ := by intro z hz; simp at hz; rcases hz with rfl | rfl | rfl <;> omega
  have HV := Lib.hid hV
  have HI := Lib.hid hI
  clear hV hI
  go_enter Try.func13, Try.ntmps13
  go_wp2
  go_loopw [5, 6] (fun v i wr => ∃ k, BoRel w ⟨3, s', 0, 0, 0, 0, 0⟩ N k v i wr) (fun _ i _ => N - (intOf i).toNat)
  case atStart => exact ⟨0, by omega, rfl, World.ownsRow_nil _ _ _ _, Below.refl _ _⟩
  case round =>
    obtain ⟨k, hk, rfl, hown, hbel⟩ := hrel
    obtain ⟨a2, cap2, rfl, hn2, hm2, hrow⟩ := Ow.own_form hown
    by_cases hlt : k < N
    · have i2 : (k : Int) < (N : Int) := by omega
      have hsz := hbel.size
      have HT : Hid (flatE (List.replicate (k + 1) (⟨3, s', 0, 0, 0, 0, 0⟩ : En)) = flatE (List.replicate k ⟨3, s', 0, 0, 0, 0, 0⟩) ++ cellsE ⟨3, s', 0, 0, 0, 0, 0⟩) := by
        show _ = _
        rw [List.replicate_succ', flatE_snoc]
      clear hrow
      go_wp2_with (at_builtin; refine append_E _ rfl (.tmp 17) (.tmp 21) rfl w.heap.size (.slice a2 k cap2) k (flatE (List.replicate k ⟨3, s', 0, 0, 0, 0, 0⟩)) rfl (hown.alloc _) ⟨wr.heap.size, 0, none⟩ 1 (cellsE ⟨3, s', 0, 0, 0, 0, 0⟩) rfl rfl ?c1 (oneCell_E _) (by omega) ?c5 ?_)
      case c1 => exact Ow.new_row wr (cellsE ⟨3, s', 0, 0, 0, 0, 0⟩) _ wr.heap.size rfl
      case c5 => simp; omega
      intro v' w2 hown2 hg2
      have hbel2 : Below w.heap.size w w2 := Ow.grown_below (hown.alloc _) (hbel.alloc hsz _) (by simp; omega) hg2
      rw [← HT.out] at hown2
      clear hg2 hown hbel
      go_wp2_with fail
      exact ⟨⟨k + 1, by omega, by go_num, hown2, hbel2⟩, by simp [intOf]; omega⟩
    · obtain rfl : N = k := by omega
      have hrow0 : Ow.Row wr 0 7 (.slice a2 N cap2) (flatE (List.replicate N ⟨3, s', 0, 0, 0, 0, 0⟩)) := row_weak (own_row hown) (Nat.zero_le _)
      have hb := hbel
      clear hrow hown hbel hlt
      by_cases hm8 : N ≤ 2000
      · have HE := Lib.hid (encode_any _ _ (fun e he => by rw [(List.mem_replicate.1 he).2]; exact HI.out) (by rw [List.length_replicate]; omega) wr hrow0)
        have hall : ∀ e ∈ List.replicate N (⟨3, s', 0, 0, 0, 0, 0⟩ : En), V e := fun e he => by rw [(List.mem_replicate.1 he).2]; exact HV.out
        have hdec := dec_bytesL _ 2000 hall (by rw [List.length_replicate]; omega)
        have hrng := bytesL_range _ hall
        have hblen := bytesL_length (List.replicate N (⟨3, s', 0, 0, 0, 0, 0⟩ : En))
        rw [List.length_replicate] at hblen
        have hdl : (dec 2000 (bytesL (List.replicate N (⟨3, s', 0, 0, 0, 0, 0⟩ : En)))).length = N := by rw [hdec, List.length_replicate]
        clear hdec hrow0
        have hdone : EncPost wr (List.replicate N ⟨3, s', 0, 0, 0, 0, 0⟩) = fun z w' => Below wr.heap.size wr w' ∧ (((∀ e ∈ List.replicate N (⟨3, s', 0, 0, 0, 0, 0⟩ : En), V e) ∧ ∃ a n, z = .returned (.tuple #[.slice a n n, .int .i64 0]) ∧ Ow.Row w' wr.heap.size 1 (.slice a n n) (u8s (bytesL (List.replicate N ⟨3, s', 0, 0, 0, 0, 0⟩)))) ∨ ((¬ ∀ e ∈ List.replicate N (⟨3, s', 0, 0, 0, 0, 0⟩ : En), V e) ∧ z = .returned (.tuple #[.slice none 0 0, .int .i64 1]))) := rfl
        rw [hdone] at HE
        clear hdone
        have HALL := Lib.hid hall
        clear hall
        generalize bytesL (List.replicate N ⟨3, s', 0, 0, 0, 0, 0⟩) = bs at *
        have HRNG := Lib.hid hrng
        have HBL := Lib.hid hblen
        clear hrng hblen
        have hm9 : ¬ (2000 : Int) < (N : Int) := by omega
        go_wp2_with fail
        refine HE.out.mono ?_
        rintro z w1 ⟨hq, h⟩
        replace hb := hb.trans (hq.mono hb.size)
        rcases h with ⟨_, a3, n3, rfl, hx⟩ | ⟨hno, _⟩
        · obtain rfl : n3 = 5 * N := by
            obtain ⟨a', n', c', he, hl, _⟩ := hx
            simp only [Value.slice.injEq] at he
            obtain ⟨rfl, rfl, rfl⟩ := he
            rw [u8s_length, HBL.out] at hl; omega
          have hby := bytes_of_row hx HRNG.out
          have HD := Lib.hid (fun W h => decode_any a3 (5 * N) (5 * N) bs W h)
          clear HE hq
          go_wp2_with fail
          refine (HD.out _ hby).mono ?_
          rintro z w2 ⟨v2, rfl, hrow2, hq⟩
          obtain ⟨a4, c4, rfl⟩ := row_len hrow2
          rw [hdl]
          have hx2 := hx.below hq
          replace hb := hb.trans (hq.mono hb.size)
          have hsz := hb.size
          clear hx hq hrow2 hby HD
          go_wp2_with (at_builtin; go_loud (refine Ow.wpList_unguard (by rfl) ?_; refine append_BF _ rfl (.tmp 58) (.tmp 59) rfl a3 (5 * N) _ (u8s bs) rfl (hx2.below (below_allocs1 w2 _)) ⟨w2.heap.size, 0, none⟩ 1 1 (u8s [1]) rfl rfl ?c1 (oneCell_u8s _) (by omega) (by omega) ?_))
          case c1 => exact Ow.new_row w2 (u8s [1]) _ w2.heap.size rfl
          intro v' w3 hown3 hg3
          have hb3 : Below w.heap.size w w3 := (hb.alloc hsz _).grown hg3 (by simp; omega) (by simp)
          rw [← u8s_append] at hown3
          have hlen3 : (bs ++ [1]).length = 5 * N + 1 := by rw [List.length_append, HBL.out]; rfl
          obtain ⟨a5, c5, rfl, _⟩ := Ow.own_form hown3
          have hby3 := bytes_of_row (own_row hown3) (fun x hx => by
            rcases List.mem_append.1 hx with hx | hx
            · exact HRNG.out x hx
            · simp at hx; subst hx; omega)
          have hdl3 : (dec 2000 (bs ++ [1])).length = min 2000 (N + 1) := by rw [dec_len, hlen3]; omega
          clear hg3 hown3 hb hx2
          have HD := Lib.hid (fun W h => decode_any a5 (5 * N + 1) c5 (bs ++ [1]) W h)
          go_wp2_with fail
          refine (HD.out _ hby3).mono ?_
          rintro z w4 ⟨v4, rfl, hrow4, hq⟩
          obtain ⟨a6, c6, rfl⟩ := row_len hrow4
          rw [hdl3]
          have hb := hb3.trans (hq.mono hb3.size)
          clear hb3 hq hrow4 hby3 HD
          by_cases h7 : N ≤ 1999
          · have e1 : min 2000 (N + 1) = N + 1 := by omega
            rw [e1]
            have e2 : (N : Int) + 1 ≤ 2000 := by omega
            go_wp2_with (go_at_call 37; refine (awake_any _).mono ?_; rintro e w7 ⟨rfl, hq⟩; replace hb := hb.trans (hq.mono hb.size))
            go_ret
            exact ⟨rfl, hb⟩
          · obtain rfl : N = 2000 := by omega
            have e1 : min 2000 (2000 + 1) = 2000 := by omega
            rw [e1]
            go_wp2_with (go_at_call 37; refine (awake_any _).mono ?_; rintro e w7 ⟨rfl, hq⟩; replace hb := hb.trans (hq.mono hb.size))
            go_ret
            exact ⟨rfl, hb⟩
        · exact absurd HALL.out hno
      · have HE := Lib.hid (fun W => encode_long a2 N cap2 (by omega) W)
        obtain ⟨w5, hmk, hown5, hg5⟩ := make_B wr wr.heap.size (5 * N) (by omega) (Nat.le_refl _)
        have hc5 : ((5 * N : Nat) : Int) = 5 * (N : Int) := by omega
        rw [hc5] at hmk
        have hby := bytes_of_row (own_row hown5) (fun x hx => by rw [(List.mem_replicate.1 hx).2]; omega)
        have HD := Lib.hid (fun W h => decode_any (some ⟨wr.heap.size, 0, none⟩) (5 * N) (5 * N) (List.replicate (5 * N) 0) W h)
        have hdl : (dec 2000 (List.replicate (5 * N) (0 : Int))).length = 2000 := by rw [dec_len, List.length_replicate]; omega
        have hb5 : Below w.heap.size w w5 := hb.grown hg5 hb.size (by simp)
        have hm9 : (2000 : Int) < (N : Int) := by omega
        clear hrow0 hown5 hg5 hc5 hb
        go_wp2_with (go_at_call 45; refine (HE.out _).mono ?_; rintro z w1 ⟨rfl, rfl⟩)
        refine (HD.out _ hby).mono ?_
        rintro z w2 ⟨v2, rfl, hrow2, hq⟩
        obtain ⟨a4, c4, rfl⟩ := row_len hrow2
        rw [hdl]
        have hb := hb5.trans (hq.mono hb5.size)
        clear hb5 hq hrow2 hby HD hmk
        go_wp2_with (go_at_call 37; refine (awake_any _).mono ?_; rintro e w7 ⟨rfl, hq⟩; replace hb := hb.trans (hq.mono hb.size))
        go_ret
        exact ⟨rfl, hb⟩
end Go.Proofs.Ytplfhjahdepphaa.Plan
