/- Contract of Decode of the document's answer. -/
import Derived.Test.YtplfhjahdepphaaPlanE
namespace Go.Proofs.Ytplfhjahdepphaa.Plan
open Go.ChangeShapes Go.WideShapes Go.ChangeAt Go.RowKit
set_option linter.unusedVariables false
set_option linter.unusedSimpArgs false
set_option maxRecDepth 100000

/-- What the loop of the document's Decode keeps. -/
def RDecRel (w : World) (bs : List Int) (i v : Value) (wr : World) : Prop :=
  ∃ k acc, Told bs k acc ∧ i = .int .i64 (5 * (k : Int)) ∧ wr.ownsRow w.heap.size 47 7 v k (flatE acc) ∧ Below w.heap.size w wr

set_option maxHeartbeats 2000000 in
theorem rdecode_any (a : Option Addr) (len cap : Nat) (bs : List Int) (w : World) (hbs : Bytes w a len cap bs) (hmax : len ≤ 4611686018427387904) :
    Calls Try.prog 43 #[.slice a len cap] w fun e w' => ∃ v, e = .returned v ∧ Ow.Row w' w.heap.size 7 v (flatE (dec 2000 bs)) ∧ Below w.heap.size w w' := by
  have hlen := hbs.1
  have HL := Lib.hid hlen
  have HB0 := Lib.hid hbs
  clear hlen hbs
  go_enter Try.func43, Try.ntmps43
  go_wp2
  go_loopw [3, 4] (fun v i wr => RDecRel w bs i v wr) (fun _ i _ => len + 5 - (intOf i).toNat)
  case atStart => exact ⟨0, [], Told.start bs, rfl, World.ownsRow_nil _ _ _ _, Below.refl _ _⟩
  case round =>
    obtain ⟨k, acc, ht, rfl, hown, hbel⟩ := hrel
    obtain ⟨a2, cap2, rfl, hn2, hm2, hrow⟩ := Ow.own_form hown
    by_cases hstop : len ≤ 5 * k ∨ k = 2000
    · have hfull := ht.full (by have := HL.out; omega)
      rw [hfull] at hrow
      have hrow2 : Ow.Row wr w.heap.size 7 (.slice a2 k cap2) (flatE (dec 2000 bs)) ∧ Below w.heap.size w wr := by
        obtain ⟨a', n', cap', e1, e2, e3, e4, e5⟩ := hrow
        simp only [Value.slice.injEq] at e1
        obtain ⟨rfl, rfl, rfl⟩ := e1
        exact ⟨⟨a2, k, cap2, rfl, e2, hn2, by unfold maxLen; omega, e5⟩, hbel⟩
      have HF := Lib.hid hrow2
      clear ht hown hfull hrow hrow2 hbel
      by_cases hs : len ≤ 5 * k
      · have hs' : (len : Int) ≤ 5 * (k : Int) := by omega
        go_wp2
        go_ret
        exact ⟨_, rfl, HF.out⟩
      · have hk : k = 2000 := by omega
        have hs' : 5 * (2000 : Int) < (len : Int) := by omega
        subst hk
        go_wp2
        go_ret
        exact ⟨_, rfl, HF.out⟩
    · have hr0 : 5 * k < len := by omega
      have hk0 : k < 2000 := by have := ht.2.1; omega
      have hk1 : (k : Int) < 2000 := by omega
      have hi1 : 5 * (k : Int) < (len : Int) := by omega
      have hBr := (HB0.out).below hbel
      obtain ⟨hb1, hb2, hb3, hb4⟩ := hBr
      rcases hb4 with hb4 | ⟨B, off, rfl, hBl, hcell⟩
      · omega
      have HT := Lib.hid (ht.step hk0 (by omega))
      have hcap1 : 5 * (k : Int) ≤ (cap : Int) := by omega
      have hle1 : 5 * (k : Int) ≤ (len : Int) := by omega
      have hne2 : ¬ cap = 5 * k := by omega
      by_cases h5 : 5 ≤ len - 5 * k
      · have cc : ∀ j, j < 5 → wr.cell? ⟨B, off + 5 * k + j, none⟩ = some (.int .u8 ((bs.drop (5 * k)).getD j 0)) ∧ 0 ≤ (bs.drop (5 * k)).getD j 0 ∧ (bs.drop (5 * k)).getD j 0 < 256 := by
          intro j hj
          rw [getD_drop, Nat.add_assoc]
          exact hcell (5 * k + j) (by omega)
        have c0 := cc 0 (by omega)
        have c1 := cc 1 (by omega)
        have c2 := cc 2 (by omega)
        have c3 := cc 3 (by omega)
        have c4 := cc 4 (by omega)
        rw [Nat.add_zero] at c0
        have HO := rone_any B (off + 5 * k) (len - 5 * k) (cap - 5 * k) h5 (by omega) _ _ _ _ _ c0.2.1 c0.2.2 c1.2.1 c1.2.2 c2.2.1 c2.2.2 c3.2.1 c3.2.2 c4.2.1 c4.2.2 wr c0.1 c1.1 c2.1 c3.1 c4.1
        have hh : hdE (bs.drop (5 * k)) = enE ((bs.drop (5 * k)).getD 0 0) ((bs.drop (5 * k)).getD 1 0) ((bs.drop (5 * k)).getD 2 0) ((bs.drop (5 * k)).getD 3 0) ((bs.drop (5 * k)).getD 4 0) := by
          unfold hdE; rw [if_neg (by rw [List.length_drop]; omega)]
        rw [← hh] at HO
        generalize hdE (bs.drop (5 * k)) = E at *
        have HI := Lib.hid HO
        clear HO hh c0 c1 c2 c3 c4 cc hcell ht hb1 hrow hstop h5
        obtain ⟨ek, es, elv, eok, eoy, eoh, eov⟩ := E
        go_wp2_with fail
        refine HI.out.mono ?_
        rintro e w1 ⟨rfl, hq⟩
        have hbel1 := Ow.below_base hbel hq
        have hown1 := Ow.own_below hown hq
        clear hown hbel hq
        go_wp2_with (at_builtin; refine append_E _ rfl (.tmp 28) (.tmp 30) rfl w.heap.size (.slice a2 k cap2) k (flatE acc) rfl ((hown1.alloc _).alloc _) ⟨w1.heap.size + 1, 0, none⟩ 1 (cellsE ⟨ek, es, elv, eok, eoy, eoh, eov⟩) rfl rfl ?c1 (oneCell_E _) (by omega) ?c5 ?_)
        case c1 => exact Ow.new_row (w1.alloc _) (cellsE ⟨ek, es, elv, eok, eoy, eoh, eov⟩) _ (w1.heap.size + 1) (by simp)
        case c5 => have := hbel1.size; simp; omega
        intro v' w2 hown2 hg2
        have hbel2 : Below w.heap.size w w2 := Ow.grown_below ((hown1.alloc _).alloc _) ((hbel1.alloc hbel1.size _).alloc (by have := hbel1.size; simp; omega) _) (by have := hbel1.size; simp; omega) hg2
        rw [← flatE_snoc] at hown2
        clear hg2 hown1 hbel1
        go_wp2_with fail
        exact ⟨⟨k + 1, _, HT.out, by go_num, hown2, hbel2⟩, by simp [intOf]; omega⟩
      · have hh : hdE (bs.drop (5 * k)) = badE := by unfold hdE; rw [if_pos (by rw [List.length_drop]; omega)]
        rw [hh] at HT
        have HS := Lib.hid (fun w => rone_short (some ⟨B, off + 5 * k, none⟩) (len - 5 * k) (cap - 5 * k) (by omega) w)
        clear hh hcell ht hb1 hrow hstop h5
        go_wp2_with (first | (go_at_call 39; refine (HS.out _).mono ?_; rintro e w' ⟨rfl, rfl⟩) | (at_builtin; refine append_E _ rfl (.tmp 28) (.tmp 30) rfl w.heap.size (.slice a2 k cap2) k (flatE acc) rfl ?own _ 1 (cellsE badE) rfl rfl ?c1 (oneCell_E _) (by omega) ?c5 ?_))
        case own => exact Ow.own_below hown (by (repeat (first | (with_reducible exact Below.refl _ _) | ((with_reducible refine Below.setCell ?_ ?_ _); rotate_left; focus (first | (simp; done) | (simp; omega))) | (with_reducible refine below_drewN ?_ _) | (with_reducible refine Below.drew ?_) | ((with_reducible refine Below.alloc ?_ ?_ _); rotate_left; focus (first | (simp; done) | (simp; omega))))))
        case c5 => have := hbel.size; simp; omega
        case c1 => exact Ow.new_row _ (cellsE badE) _ _ (by simp)
        intro v' w2 hown2 hg2
        have hbel2 : Below w.heap.size w w2 := Ow.grown_below (Ow.own_below hown (by (repeat (first | (with_reducible exact Below.refl _ _) | ((with_reducible refine Below.setCell ?_ ?_ _); rotate_left; focus (first | (simp; done) | (simp; omega))) | (with_reducible refine below_drewN ?_ _) | (with_reducible refine Below.drew ?_) | ((with_reducible refine Below.alloc ?_ ?_ _); rotate_left; focus (first | (simp; done) | (simp; omega))))))) (hbel.trans ((show Below wr.heap.size wr _ by (repeat (first | (with_reducible exact Below.refl _ _) | ((with_reducible refine Below.setCell ?_ ?_ _); rotate_left; focus (first | (simp; done) | (simp; omega))) | (with_reducible refine below_drewN ?_ _) | (with_reducible refine Below.drew ?_) | ((with_reducible refine Below.alloc ?_ ?_ _); rotate_left; focus (first | (simp; done) | (simp; omega)))))).mono hbel.size)) (by have := hbel.size; simp; omega) hg2
        rw [← flatE_snoc] at hown2
        clear hg2 hown hbel
        go_wp2_with fail
        exact ⟨⟨k + 1, _, HT.out, by go_num, hown2, hbel2⟩, by simp [intOf]; omega⟩
end Go.Proofs.Ytplfhjahdepphaa.Plan
