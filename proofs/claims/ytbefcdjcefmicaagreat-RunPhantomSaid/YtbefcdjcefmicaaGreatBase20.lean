/- Texts of this claim, laid together: Ed, Pr, Lw. -/
import Derived.Test.YtbefcdjcefmicaaGreatBase19
import Derived.Test.YtbefcdjcefmicaaGreatBase17
import Derived.Test.YtbefcdjcefmicaaGreatBase13
import Derived.Test.YtbefcdjcefmicaaGreatBase18
namespace Go.Proofs.YtbefcdjcefmicaaGreat.Em
open Go.ChangeShapes Go.WideShapes Go.ChangeAt Go.RowKit En
set_option linter.unusedVariables false
set_option linter.unusedSimpArgs false
set_option maxRecDepth 100000
set_option maxHeartbeats 1600000

/-- A least number. -/
theorem least_exists {P : Nat → Prop} (h : ∃ n, P n) : ∃ n, P n ∧ ∀ m, m < n → ¬ P m := by
  obtain ⟨n, hn⟩ := h
  induction n using Nat.strongRecOn with
  | _ n ih =>
    by_cases hm : ∃ m, m < n ∧ P m
    · obtain ⟨m, h1, h2⟩ := hm
      exact ih m h1 h2
    · exact ⟨n, hn, fun m h1 h2 => hm ⟨m, h1, h2⟩⟩
open Classical in
noncomputable def leastF (P : Nat → Prop) : Nat := if h : ∃ n, P n then Classical.choose (least_exists h) else 0
theorem leastF_spec {P : Nat → Prop} (h : ∃ n, P n) : P (leastF P) := by
  unfold leastF
  rw [dif_pos h]
  exact (Classical.choose_spec (least_exists h)).1
theorem leastF_le {P : Nat → Prop} {n : Nat} (h : P n) : leastF P ≤ n := by
  have hh : ∃ n, P n := ⟨n, h⟩
  unfold leastF
  rw [dif_pos hh]
  rcases Nat.lt_or_ge n (Classical.choose (least_exists hh)) with h1 | h1
  · exact absurd h ((Classical.choose_spec (least_exists hh)).2 n h1)
  · exact h1
def rnd (z : Int) : Nat := ((z.tmod 8 + 8).tmod 8).toNat
theorem rnd_lt (z : Int) : rnd z < 8 := by unfold rnd; have h1 := Int.tmod_lt_of_pos (z.tmod 8 + 8) (show (0 : Int) < 8 by decide); omega
theorem rnd_cast (z : Int) : ((rnd z : Nat) : Int) = (z.tmod 8 + 8).tmod 8 := by
  unfold rnd
  have h0 := Int.lt_tmod_of_pos z (show (0 : Int) < 8 by decide)
  have h1 := Int.tmod_nonneg 8 (show (0 : Int) ≤ z.tmod 8 + 8 by omega)
  omega
def roundOf (os : List Int) : List Nat := os.map rnd ++ List.range 8
def runRound : List Nat → St → Nat → Option (St × Nat)
  | [], σ, n => some (σ, n)
  | s :: l, σ, n => match runOne σ s with
    | some (σ', b) => runRound l σ' (if b = true then n + 1 else n)
    | none => none
def runEnd (l : List Nat) (most : Nat) : Nat → St → Nat → Option (St × Nat × Bool)
  | 0, _, _ => none
  | f + 1, σ, n => if σ.live.length = 0 then some (σ, n, true) else match runRound l σ n with
    | some (σ', n') => if most < n' then some (σ', 0, false) else runEnd l most f σ' n'
    | none => none
theorem frow_of_ownI {L : Lab} {w : World} {base : Nat} {av : Option Addr} {m cap : Nat} {xs : List Value} (h : w.ownsRow base 3 1 (.slice av m cap) m xs) (hL : ∀ b, base ≤ b → L b = none) : FRow L w 1 (.slice av m cap) xs := by
  obtain ⟨a, c, e, h1, h2, h3⟩ := Ow.own_form h
  obtain ⟨rfl, rfl⟩ : av = a ∧ cap = c := by simpa using e
  refine ⟨av, m, cap, rfl, h.1, h1, by unfold maxLen; omega, ?_⟩
  rcases h.2 with ⟨h0, hn⟩ | ⟨g, cap', cur, hv, hb, hg, hnc, hcm, hcs, htake⟩
  · exact .inl (by first | exact h0 | omega)
  · obtain ⟨rfl, rfl⟩ : av = some ⟨g, 0, none⟩ ∧ cap = cap' := by simpa using hv
    refine .inr ⟨g, 0, rfl, hL g (h.lt g rfl).1, (h.lt g rfl).2, fun j hj => ?_⟩
    rw [Nat.zero_add]
    exact h.cellAt j hj
def mostOf (k : Nat) : Nat := (boundOf (k : Int) 256).toNat * 8
theorem most_ok (k : Nat) (hk : k ≤ 8) : IntKind.i64.wrap (boundOf (k : Int) 256 * 8) = ((mostOf k : Nat) : Int) := by
  match k, hk with
  | 0, _ | 1, _ | 2, _ | 3, _ | 4, _ | 5, _ | 6, _ | 7, _ | 8, _ => decide +kernel
  | k + 9, h => omega
theorem most_le (k : Nat) (hk : k ≤ 8) : mostOf k ≤ 200000000 := by
  match k, hk with
  | 0, _ | 1, _ | 2, _ | 3, _ | 4, _ | 5, _ | 6, _ | 7, _ | 8, _ => decide +kernel
  | k + 9, h => omega
def EndRel (A : Book) (w : World) (l : List Nat) (most : Nat) (vr : Value) (σ2 : St) (n2 : Nat) (ok : Bool) (f : Nat) (n : Nat) (wr : World) : Prop :=
  ∃ σj A', runEnd l most f σj n = some (σ2, n2, ok) ∧ n ≤ most ∧ Live A' σj wr ∧ Grow A.L w A'.L wr ∧ A'.be = A.be ∧ FRow A'.L wr 1 vr (l.map i64)
theorem end_any {A : Book} {σ : St} {w : World} (hL : Live A σ w) (os : List Int) (ao : Option Addr) (co : Nat) (hfo : FRow A.L w 1 (.slice ao os.length co) (os.map fun z => .int .i64 z)) (hol : os.length ≤ 1000) (F : Nat) (σ2 : St) (n2 : Nat) (ok : Bool) (hrun : runEnd (roundOf os) (mostOf σ.live.length) F σ 0 = some (σ2, n2, ok)) :
    Calls Tryz.prog 44 #[.pointer (some ⟨A.be, 0, none⟩), .slice ao os.length co] w fun e w' => e = .returned (.tuple #[.int .i64 (n2 : Int), .bool ok]) ∧ ∃ A', Live A' σ2 w' ∧ Grow A.L w A'.L w' ∧ A'.be = A.be := by
  have hlen : σ.live.length ≤ 8 := liveTo_le σ 8
  have HLV := Lib.hid (liveRow_any hL.rep)
  have HMO := Lib.hid (And.intro (most_ok σ.live.length hlen) (most_le σ.live.length hlen))
  have n8 := most_ok σ.live.length hlen
  have HH := Lib.hid (And.intro hL (And.intro hfo (And.intro hol hrun)))
  have hoat : ∀ k (hk : k < os.length) (wr : World), Below w.heap.size w wr → ∃ g off, ao = some ⟨g, off, none⟩ ∧ wr.cell? ⟨g, off + k, none⟩ = some (.int .i64 os[k]) := by
    intro k hk wr hb
    obtain ⟨a, n, cap, e, h1, h2, h3, h4⟩ := hfo
    simp only [Value.slice.injEq] at e
    obtain ⟨rfl, rfl, rfl⟩ := e
    rcases h4 with h4 | ⟨g, off, e1, e2, e3, e4⟩
    · omega
    · refine ⟨g, off, e1, ?_⟩
      rw [World.cell?_of_block (w := w) (a := ⟨g, off + k, none⟩) (hb.block g e3), e4 k (by omega)]
      simp [hk]
  have HO := Lib.hid hoat
  clear hoat hL hfo hrun hlen
  generalize hml : mostOf σ.live.length = most at *
  generalize σ.live.length = k8 at *
  go_enter Tryz.func44, Tryz.ntmps44
  go_wp2_with (first | (go_at_call 30; refine HLV.out.mono ?_; rintro e w1 ⟨av, cap, rfl, hr, hb⟩; have HB1 := Lib.hid hb; clear hr hb) | (go_at_call 67; refine (bound_any _ _ _).mono ?_; rintro e w' ⟨rfl, rfl⟩))
  go_loopw [7, 21] (fun l i wr => ∃ k : Nat, k ≤ os.length ∧ i = .int .i64 (k : Int) ∧ Below w.heap.size w wr ∧ ∃ av cap, l = .slice av k cap ∧ wr.ownsRow w.heap.size 3 1 l k (((os.take k).map rnd).map i64)) (fun _ i _ => os.length - (intOf i).toNat)
  case atStart => exact ⟨0, Nat.zero_le _, rfl, HB1.out, none, 0, rfl, rfl, .inl ⟨rfl, rfl⟩⟩
  case round =>
    obtain ⟨k, hk, rfl, hb, av1, cap1, rfl, hown⟩ := hrel
    by_cases hlt : k < os.length
    · obtain ⟨g, off, rfl, hc⟩ := HO.out k hlt wr hb
      have hto : os.take (k + 1) = os.take k ++ [os[k]] := by rw [List.take_succ_eq_append_getElem hlt]
      have hz := rnd_cast os[k]
      have h0 := Int.lt_tmod_of_pos os[k] (show (0 : Int) < 8 by decide)
      have h1 := Int.tmod_lt_of_pos os[k] (show (0 : Int) < 8 by decide)
      have hz2 : ((rnd os[k] : Nat) : Int) = os[k].tmod 8 % 8 := by rw [hz, Int.tmod_eq_emod_of_nonneg (by omega)]; omega
      have HT := Lib.hid (And.intro hto (And.intro hlt (And.intro hz hz2)))
      have nb : (k : Int) < (os.length : Int) := by omega
      have nb0 : (0 : Int) ≤ (k : Int) := by omega
      have n1 : IntKind.i64.wrap ((k : Int) + 1) = (k : Int) + 1 := by rw [IntKind.wrap_i64]; omega
      have hk4 : k < 4000000 := by omega
      clear hto hz hz2 hk
      generalize os[k] = z at *
      clear hlt
      have m1 : IntKind.i64.wrap (z.tmod 8 + 8) = z.tmod 8 + 8 := by rw [IntKind.wrap_i64]; omega
      go_wp2_with (refine wp_int _ rfl _ _ rfl w (by assumption) _ _ _ _ rfl (by assumption) (by omega) _ rfl ?_; intro avl capl wl ql pl)
      go_roundw
      case rel =>
        obtain ⟨hto, hlt, hz, hz2⟩ := HT.out
        refine ⟨k + 1, hlt, rfl, pl, avl, capl, rfl, ?_⟩
        rw [hto]
        first | rw [← hz] at ql | rw [← hz2] at ql
        simpa using ql
      case measure => have := HT.out.2.1; simp [intOf]; omega
    · obtain rfl : k = os.length := by omega
      rw [List.take_length] at hown
      clear hlt hk
      go_wp2
      go_loopw [7, 33] (fun l i wr => ∃ k : Nat, k ≤ 8 ∧ i = .int .i64 (k : Int) ∧ Below w.heap.size w wr ∧ ∃ av cap, l = .slice av (os.length + k) cap ∧ wr.ownsRow w.heap.size 3 1 l (os.length + k) ((os.map rnd ++ List.range k).map i64)) (fun _ i _ => 8 - (intOf i).toNat)
      case atStart => exact ⟨0, by omega, rfl, hb, av1, cap1, rfl, by simpa using hown⟩
      case round =>
        clear hown hb
        obtain ⟨k, hk, rfl, hb, av2, cap2, rfl, hown⟩ := hrel
        by_cases hlt : k < 8
        · have n1 : IntKind.i64.wrap ((k : Int) + 1) = (k : Int) + 1 := by rw [IntKind.wrap_i64]; omega
          have nb : (k : Int) < 8 := by omega
          have hk4 : os.length + k < 4000000 := by omega
          have HT := Lib.hid hlt
          clear hlt hk
          generalize hmm : os.length + k = m at *
          have HM := Lib.hid hmm
          clear hmm
          go_wp2_with (refine wp_int _ rfl _ _ rfl w (by assumption) _ _ _ _ rfl (by assumption) (by omega) _ rfl ?_; intro avl capl wl ql pl)
          go_roundw
          case rel =>
            have em : os.length + (k + 1) = m + 1 := by have := HM.out; omega
            refine ⟨k + 1, HT.out, rfl, pl, avl, capl, by rw [em], ?_⟩
            rw [em, List.range_succ, ← List.append_assoc, List.map_append]
            exact ql
          case measure => have := HT.out; simp [intOf]; omega
        · obtain rfl : k = 8 := by omega
          have h8 : ((8 : Nat) : Int) = 8 := rfl
          rw [h8]
          clear h8
          have hR0 : wr.ownsRow w.heap.size 3 1 (.slice av2 (os.length + 8) cap2) (os.length + 8) ((roundOf os).map i64) := hown
          obtain ⟨g2, hg2⟩ : ∃ g2, av2 = some ⟨g2, 0, none⟩ := by
            rcases hR0.2 with ⟨h0, hn⟩ | ⟨g, cap', cur, hv, _⟩
            · omega
            · simp only [Value.slice.injEq] at hv
              exact ⟨g, hv.1⟩
          have hfr := frow_of_ownI hR0 HH.out.1.rep.mem.fresh
          obtain ⟨l, hl⟩ : ∃ l, l = roundOf os := ⟨_, rfl⟩
          have hll : l.length = os.length + 8 := by rw [hl]; unfold roundOf; simp
          have hl8 : ∀ s ∈ l, s < 8 := by
            intro s hs
            rw [hl] at hs
            unfold roundOf at hs
            rcases List.mem_append.1 hs with hs | hs
            · obtain ⟨z, _, rfl⟩ := List.mem_map.1 hs
              exact rnd_lt z
            · exact List.mem_range.1 hs
          obtain ⟨hLive, _, hol, hrun⟩ := HH.out
          rw [← hl] at hfr hrun
          have hE : EndRel A w l most (.slice av2 l.length cap2) σ2 n2 ok F 0 wr := ⟨σ, A, hrun, Nat.zero_le _, hLive.below hb, Grow.below hb, rfl, by rw [hll]; exact hfr.grow (Grow.refl _ _)⟩
          rw [← hll]
          have HS := Lib.hid (And.intro hE (And.intro hl8 (show l.length ≤ 2000 by omega)))
          have HLL := Lib.hid hll
          clear hlt hk hown hb hR0 hfr hE hl8 hll hLive hrun hol hl
          subst hg2
          go_wp2
          go_loopw [11] (fun i wr => ∃ f n : Nat, i = .int .i64 (n : Int) ∧ EndRel A w l most (.slice (some ⟨g2, 0, none⟩) l.length cap2) σ2 n2 ok f n wr) (fun i wr => leastF fun f => EndRel A w l most (.slice (some ⟨g2, 0, none⟩) l.length cap2) σ2 n2 ok f (intOf i).toNat wr)
          case atStart => exact ⟨F, 0, rfl, HS.out.1⟩
          case round =>
            obtain ⟨f, n, rfl, hrel⟩ := hrel
            have hm := leastF_spec (P := fun f => EndRel A w l most (.slice (some ⟨g2, 0, none⟩) l.length cap2) σ2 n2 ok f n wr) ⟨f, hrel⟩
            clear hrel f
            obtain ⟨f0, hf0⟩ : ∃ f0, leastF (fun f => EndRel A w l most (.slice (some ⟨g2, 0, none⟩) l.length cap2) σ2 n2 ok f n wr) = f0 := ⟨_, rfl⟩
            rw [hf0] at hm
            have HF0 := Lib.hid hf0
            clear hf0
            obtain ⟨σj, A', hrun, hnm, hL, gr, eb, hfr⟩ := hm
            cases f0 with
            | zero => cases hrun
            | succ f0 =>
            unfold runEnd at hrun
            have hlv := liveRow_any hL.rep
            rw [eb] at hlv
            have HLV2 := Lib.hid hlv
            have HBW : Hid (∀ w1, Below wr.heap.size wr w1 → Live A' σj w1 ∧ Grow A.L w A'.L w1 ∧ FRow A'.L w1 1 (.slice (some ⟨g2, 0, none⟩) l.length cap2) (l.map i64)) := fun w1 hb => ⟨hL.below hb, gr.trans (Grow.below hb), hfr.grow (Grow.below hb)⟩
            have HEB := Lib.hid (And.intro eb hnm)
            clear hlv hL gr hfr eb hnm
            by_cases h0 : σj.live.length = 0
            · rw [if_pos h0] at hrun
              simp only [Option.some.injEq, Prod.mk.injEq] at hrun
              obtain ⟨rfl, rfl, rfl⟩ := hrun
              rw [h0] at HLV2
              clear h0
              go_wp2_with (go_at_call 30; refine HLV2.out.mono ?_; rintro e w3 ⟨av3, cap3, rfl, hr, hb⟩; have HB3 := Lib.hid hb; clear hr hb)
              go_ret2
              obtain ⟨q1, q2, _⟩ := HBW.out w3 HB3.out
              exact ⟨rfl, A', q1, q2, HEB.out.1⟩
            · rw [if_neg h0] at hrun
              have hp : 0 < σj.live.length := by omega
              generalize σj.live.length = nl at *
              have fl1 : decide ((0 : Int) < (nl : Int)) = true := by first | (simp; done) | (simp; omega)
              have fl2 : ((0 : Int) < (nl : Int)) = True := by first | (simp; done) | (simp; omega)
              have fl3 : (0 < nl) = True := by first | (simp; done) | (simp; omega)
              have fl4 : decide (0 < nl) = true := by first | (simp; done) | (simp; omega)
              clear h0 hp
              split at hrun
              · rename_i σ' n' hround
                have HRN := Lib.hid (And.intro hrun hround)
                clear hrun hround
                go_wp2_with (go_at_call 30; refine HLV2.out.mono ?_; rintro e w3 ⟨av3, cap3, rfl, hr, hb⟩; have HB3 := Lib.hid hb; clear hr hb)
                go_loopw [11, 47] (fun i q wr2 => ∃ k nk : Nat, i = .int .i64 (nk : Int) ∧ q = .int .i64 (k : Int) ∧ k ≤ l.length ∧ nk ≤ n + k ∧ ∃ σk A2, runRound (l.drop k) σk nk = some (σ', n') ∧ Live A2 σk wr2 ∧ Grow A.L w A2.L wr2 ∧ A2.be = A.be ∧ FRow A2.L wr2 1 (.slice (some ⟨g2, 0, none⟩) l.length cap2) (l.map i64)) (fun _ q _ => l.length - (intOf q).toNat)
                case atStart =>
                  obtain ⟨q1, q2, q3⟩ := HBW.out w3 HB3.out
                  exact ⟨0, n, rfl, rfl, Nat.zero_le _, by omega, σj, A', HRN.out.2, q1, q2, HEB.out.1, q3⟩
                case round =>
                  obtain ⟨k, nk, rfl, rfl, hk, hnk, σk, A2, hrr, hL2, gr2, eb2, hfr2⟩ := hrel
                  have hnm := HEB.out.2
                  have hml := HMO.out.2
                  have hll2 := HS.out.2.2
                  by_cases hlt : k < l.length
                  · have hd : l.drop k = l[k] :: l.drop (k + 1) := List.drop_eq_getElem_cons hlt
                    rw [hd] at hrr
                    unfold runRound at hrr
                    have hs8 := HS.out.2.1 l[k] (List.getElem_mem hlt)
                    have hcl := hfr2.at (j := k) (v := .int .i64 (l[k] : Int)) (by simp [hlt])
                    split at hrr
                    · rename_i σ3 b3 hone
                      have ho := one_any hL2 l[k] hs8 σ3 b3 hone
                      rw [eb2] at ho
                      have HO1 := Lib.hid ho
                      have HK := Lib.hid (And.intro hrr (And.intro hlt (And.intro hnk (And.intro gr2 (And.intro eb2 hfr2)))))
                      have nb : (k : Int) < (l.length : Int) := by omega
                      have nb0 : (0 : Int) ≤ (k : Int) := by omega
                      have n1 : IntKind.i64.wrap ((k : Int) + 1) = (k : Int) + 1 := by rw [IntKind.wrap_i64]; omega
                      have n2' : IntKind.i64.wrap ((nk : Int) + 1) = (nk : Int) + 1 := by rw [IntKind.wrap_i64]; omega
                      clear ho hone hrr hnk gr2 eb2 hfr2 hL2 hd hs8 hk hnm hml hll2
                      generalize l[k] = sk at *
                      clear hlt
                      cases b3
                      all_goals
                        go_wp2_with (go_at_call 80; refine HO1.out.mono ?_; rintro e w4 ⟨rfl, A4, q1, q2, q3⟩; have HQ := Lib.hid (And.intro q1 (And.intro q2 q3)); clear q1 q2 q3)
                        go_roundw
                        case rel =>
                          obtain ⟨hrr, hlt, hnk, gr2, eb2, hfr2⟩ := HK.out
                          obtain ⟨q1, q2, q3⟩ := HQ.out
                          first
                          | exact ⟨k + 1, nk, rfl, rfl, hlt, by omega, σ3, A4, by simpa using hrr, q1, gr2.trans q2, q3.trans eb2, hfr2.grow q2⟩
                          | exact ⟨k + 1, nk + 1, rfl, rfl, hlt, by omega, σ3, A4, by simpa using hrr, q1, gr2.trans q2, q3.trans eb2, hfr2.grow q2⟩
                        case measure => have := HK.out.2.1; simp [intOf]; omega
                    · cases hrr
                  · obtain rfl : k = l.length := by omega
                    rw [List.drop_length] at hrr
                    unfold runRound at hrr
                    simp only [Option.some.injEq, Prod.mk.injEq] at hrr
                    obtain ⟨rfl, rfl⟩ := hrr
                    have hrun := HRN.out.1
                    have HQ := Lib.hid (And.intro hL2 (And.intro gr2 (And.intro eb2 hfr2)))
                    clear hL2 gr2 eb2 hfr2 hlt hk hll2
                    by_cases hmn : most < nk
                    · rw [if_pos hmn] at hrun
                      simp only [Option.some.injEq, Prod.mk.injEq] at hrun
                      obtain ⟨rfl, rfl, rfl⟩ := hrun
                      have fm1 : decide ((most : Int) < (nk : Int)) = true := by first | (simp; done) | (simp; omega)
                      have fm2 : ((most : Int) < (nk : Int)) = True := by first | (simp; done) | (simp; omega)
                      have fm3 : (most < nk) = True := by first | (simp; done) | (simp; omega)
                      have fm4 : decide (most < nk) = true := by first | (simp; done) | (simp; omega)
                      clear hmn hnk hnm hml
                      go_wp2
                      go_ret2
                      obtain ⟨q1, q2, q3, _⟩ := HQ.out
                      exact ⟨rfl, A2, q1, q2, q3⟩
                    · rw [if_neg hmn] at hrun
                      have hnew : EndRel A w l most (.slice (some ⟨g2, 0, none⟩) l.length cap2) σ2 n2 ok f0 nk _ := ⟨σk, A2, hrun, by omega, HQ.out.1, HQ.out.2.1, HQ.out.2.2.1, HQ.out.2.2.2⟩
                      have HNEW := Lib.hid hnew
                      have fm1 : decide ((most : Int) < (nk : Int)) = false := by first | (simp; done) | (simp; omega)
                      have fm2 : ((most : Int) < (nk : Int)) = False := by first | (simp; done) | (simp; omega)
                      have fm3 : (most < nk) = False := by first | (simp; done) | (simp; omega)
                      have fm4 : decide (most < nk) = false := by first | (simp; done) | (simp; omega)
                      clear hmn hnk hnm hml hnew hrun
                      go_wp2
                      go_roundw
                      case rel => exact ⟨f0, nk, rfl, HNEW.out⟩
                      case measure => exact Nat.lt_of_le_of_lt (leastF_le HNEW.out) (Nat.lt_of_lt_of_eq (Nat.lt_succ_self f0) HF0.out.symm)
              · cases hrun
end Go.Proofs.YtbefcdjcefmicaaGreat.Em

namespace Go.Proofs.YtbefcdjcefmicaaGreat.Em
open Go.ChangeShapes Go.WideShapes Go.ChangeAt Go.RowKit En
set_option linter.unusedVariables false
set_option linter.unusedSimpArgs false
set_option maxRecDepth 100000
set_option maxHeartbeats 1600000

def okWord (σ : St) (x : Nat) : Bool := decide (x < 18446744073709551616) && ((rd x).1 != 2 || (decide ((rd x).2 ≤ 2000) && small σ (σ.place (rd x).2)))
/-- A key's chain comes to its end, and may be read. -/
def chainOk (σ : St) : Nat → Nat → Bool
  | 0, _ => false
  | n + 1, link => link == 0 || (vl σ link && okWord σ (σ.word (wslot link 0)) && okWord σ (σ.word (wslot link 1)) && ((σ.done (σ.word (wslot link 0)) && !σ.done (σ.word (wslot link 1))) || chainOk σ n (σ.word (wslot link 2))))
theorem chain_stable (σ : St) : ∀ (n m link : Nat), chainOk σ n link = true → n ≤ m → σ.pairAt m link = σ.pairAt n link ∧ chainOk σ m link = true := by
  intro n
  induction n with
  | zero => intro m link h; cases h
  | succ n ih =>
    intro m link h hm
    cases m with
    | zero => omega
    | succ m =>
      unfold chainOk at h ⊢
      unfold St.pairAt
      by_cases h0 : link = 0
      · simp [h0]
      · rw [if_neg h0, if_neg h0]
        have hb : (link == 0) = false := by simpa using h0
        rw [hb, Bool.false_or] at h ⊢
        simp only [Bool.and_eq_true] at h
        obtain ⟨⟨⟨h1, h2⟩, h3⟩, h4⟩ := h
        rw [h1, h2, h3]
        cases hf : (σ.done (σ.word (wslot link 0)) && !σ.done (σ.word (wslot link 1))) with
        | true => simp
        | false =>
          rw [hf, Bool.false_or] at h4
          obtain ⟨e1, e2⟩ := ih m _ h4 (by omega)
          rw [e2]
          simpa using e1
def okPairs (σ : St) : Bool := (List.range 64).all fun key => chainOk σ (σ.slots + 1) (σ.word (9 + key))
def pairsTo (σ : St) (k : Nat) : List (Nat × Nat) := (List.range k).filterMap fun key => (σ.pairAt (σ.slots + 1) (σ.word (9 + key))).map fun v => (key, v)
theorem pairsTo_succ (σ : St) (k : Nat) : pairsTo σ (k + 1) = pairsTo σ k ++ (match σ.pairAt (σ.slots + 1) (σ.word (9 + k)) with | some v => [(k, v)] | none => []) := by
  unfold pairsTo
  rw [List.range_succ, List.filterMap_append]
  congr 1
  cases h : σ.pairAt (σ.slots + 1) (σ.word (9 + k)) <;> simp [h]
theorem pairsTo_le (σ : St) (k : Nat) : (pairsTo σ k).length ≤ k := by
  unfold pairsTo
  have := List.length_filterMap_le (fun key => (σ.pairAt (σ.slots + 1) (σ.word (9 + key))).map fun v => (key, v)) (List.range k)
  simpa using this
theorem wp_pair {ops : Array Oper} {rest : List Oper} {o : Oper} {a : Act} {Q : Exit → Act → World → Prop} (w : World) (hgd : o.guard = none) (s x : Operand)
    (ho : o.op = .call { callee := .builtin .append, args := #[s, x], argTypes := #[40, 40] })
    (w0 : World) (hb : Below w0.heap.size w0 w) (av : Option Addr) (m cap : Nat) (xs : List Value) (hs : a.eval s = .slice av m cap) (hown : w.ownsRow w0.heap.size 140 2 (.slice av m cap) m xs) (hm : m < 4000000)
    (t0 t1 : Int) (hx : a.eval x = .slice (some ⟨w.heap.size, 0, none⟩) 1 1)
    (h : ∀ av' cap' w', w'.ownsRow w0.heap.size 140 2 (.slice av' (m + 1) cap') (m + 1) (xs ++ [.int .i64 t0, .int .i64 t1]) → Below w0.heap.size w0 w' → wpList Tryz.prog ops Q rest (a.put o.dst (.slice av' (m + 1) cap')) w') :
    wpList Tryz.prog ops Q (o :: rest) a (w.alloc (.cells #[.int .i64 t0, .int .i64 t1] 140)) := by
  obtain ⟨ii, hii, hz0, hz1, hz2⟩ := info_parts infoP
  have hw := hb.size
  have hown' : (w.alloc (.cells #[.int .i64 t0, .int .i64 t1] 140)).ownsRow w0.heap.size 140 2 (.slice av m cap) m xs := own_same hown fun g hg => Below.heap_alloc _ _ _ (hown.lt g hg).2
  refine Ow.wpList_append_to _ hgd s x 40 ho w0.heap.size 140 ii _ 2 16 Tryz.underlying40 hii hz0 hz1 hz2 rfl (by decide) (.slice av m cap) m xs hs hown' ⟨w.heap.size, 0, none⟩ 1 1 (by omega) [.int .i64 t0, .int .i64 t1] hx rfl (fun j u hu => Ow.new_row w [.int .i64 t0, .int .i64 t1] _ _ rfl j u hu) (by intro u hu; simp at hu; rcases hu with rfl | rfl <;> rfl) (by unfold maxLen; omega) (by omega) (by simp; omega) ?_
  intro v' w' q1 q2 q3
  obtain ⟨av', cap', rfl, _⟩ := Ow.own_form q1
  exact h av' cap' w' q1 ((hb.alloc hw _).grown q2 (by simp; omega) (fun g hg => (hown.lt g hg).1))
theorem done_ok {A : Book} {σ : St} {w w1 : World} (hR : Rep A σ w) (hb : Below w.heap.size w w1) {x : Nat} (h : okWord σ x = true) :
    Calls Tryz.prog 63 #[.pointer (some ⟨A.be, 0, none⟩), .int .u64 (x : Int)] w1 fun e w' => e = .returned (.bool (σ.done x)) ∧ Below w.heap.size w w' := by
  unfold okWord at h
  simp only [Bool.and_eq_true, decide_eq_true_eq, Bool.or_eq_true, bne_iff_ne] at h
  have hr := hR.below hb
  refine (done_any hr x h.1 fun h2 => ?_).mono fun e w' hh => ⟨hh.1, hb.trans (hh.2.mono hb.size)⟩
  obtain ⟨h3, h4⟩ := h.2.resolve_left (fun hn => hn h2)
  exact ⟨by omega, place_lt hR h3, small_iff h4⟩
theorem peek_ok {A : Book} {σ : St} {w w1 : World} (hR : Rep A σ w) (hb : Below w.heap.size w w1) (i : Nat) (hi : i < σ.words.length) :
    Calls Tryz.prog 60 #[.pointer (some ⟨A.ba, 0, none⟩), .int .i64 (i : Int)] w1 fun e w' => e = .returned (.int .u64 (σ.word i : Int)) ∧ Below w.heap.size w w' := by
  refine (peek_any (hR.below hb) i hi).mono fun e w' hh => ?_
  obtain ⟨h1, n, rfl⟩ := hh
  exact ⟨h1, hb.trans ⟨rfl, rfl, rfl, Nat.le_refl _, fun _ _ => rfl⟩⟩
theorem pairs_any {A : Book} {σ : St} {w : World} (hR : Rep A σ w) (hok : okPairs σ = true) :
    Calls Tryz.prog 32 #[.pointer (some ⟨A.be, 0, none⟩)] w fun e w' => ∃ av cap, e = .returned (.slice av σ.pairs.length cap) ∧ w'.ownsRow w.heap.size 140 2 (.slice av σ.pairs.length cap) σ.pairs.length (pairCs σ.pairs) ∧ Below w.heap.size w w' := by
  have hls : σ.pairs = pairsTo σ 64 := rfl
  rw [hls]
  have HRR := Lib.hid (And.intro hR hok)
  have HE2 : Hid (∀ w', Below w.heap.size w w' → w'.cell? ⟨A.be, 2, none⟩ = some (.pointer (some ⟨A.ba, 0, none⟩))) := fun w' hb => (hR.below hb).eng 2 rfl
  clear hls hR hok
  go_enter Tryz.func32, Tryz.ntmps32
  go_wp2
  go_loopw [3, 6] (fun l i wr => ∃ k : Nat, k ≤ 64 ∧ i = .int .i64 (k : Int) ∧ Below w.heap.size w wr ∧ ∃ av cap, l = .slice av (pairsTo σ k).length cap ∧ wr.ownsRow w.heap.size 140 2 l (pairsTo σ k).length (pairCs (pairsTo σ k))) (fun _ i _ => 64 - (intOf i).toNat)
  case atStart => exact ⟨0, by omega, rfl, Below.refl _ _, none, 0, rfl, rfl, .inl ⟨rfl, rfl⟩⟩
  case round =>
    obtain ⟨k, hk, rfl, hb, av, cap, rfl, hown⟩ := hrel
    by_cases hlt : k < 64
    · have hR := HRR.out.1
      have hch : chainOk σ (σ.slots + 1) (σ.word (9 + k)) = true := by
        have h := HRR.out.2
        unfold okPairs at h
        rw [List.all_eq_true] at h
        exact h k (List.mem_range.2 hlt)
      have e2 := HE2.out wr hb
      have n1 : IntKind.i64.wrap ((k : Int) + 1) = (k : Int) + 1 := by rw [IntKind.wrap_i64]; omega
      have n9 : IntKind.i64.wrap (9 + (k : Int)) = 9 + (k : Int) := by rw [IntKind.wrap_i64]; omega
      have HP0 := Lib.hid (show Calls Tryz.prog 60 #[.pointer (some ⟨A.ba, 0, none⟩), .int .i64 (9 + (k : Int))] wr (fun e w' => e = .returned (.int .u64 (σ.word (9 + k) : Int)) ∧ Below wr.heap.size wr w') from by
        have h := peek_ok (hR.below hb) (Below.refl _ _) (9 + k) (by rw [hR.nw]; omega)
        rw [show ((9 + k : Nat) : Int) = 9 + (k : Int) by omega] at h
        exact h)
      have HK0 := Lib.hid (And.intro hown (And.intro hch hlt))
      have hm0 := pairsTo_le σ k
      clear hch
      go_wp2_with (go_at_call 60; refine HP0.out.mono ?_; rintro e w1 ⟨rfl, hb1⟩)
      obtain ⟨hown, hch, _⟩ := HK0.out
      generalize hPP : σ.pairAt (σ.slots + 1) (σ.word (9 + k)) = PP
      have hsu := pairsTo_succ σ k
      rw [hPP] at hsu
      have HSU := Lib.hid hsu
      generalize hmm : (pairsTo σ k).length = m at *
      generalize hxs : pairCs (pairsTo σ k) = xs at *
      have HMX := Lib.hid (And.intro hmm hxs)
      have hm4 : m < 4000000 := by omega
      clear hsu hmm hxs hm0 hk
      go_loopw [3, 5] (fun l v wr2 => ∃ link : Nat, v = .int .u64 (link : Int) ∧ (∃ n, chainOk σ n link = true ∧ σ.pairAt n link = PP) ∧ Below w.heap.size w wr2 ∧ l = .slice av m cap ∧ wr2.ownsRow w.heap.size 140 2 l m xs) (fun _ v _ => leastF fun n => chainOk σ n (intOf v).toNat = true ∧ σ.pairAt n (intOf v).toNat = PP)
      case atStart => exact ⟨_, rfl, ⟨_, hch, hPP⟩, hb.trans (hb1.mono hb.size), rfl, own_same hown fun g hg => hb1.block g (hown.lt g hg).2⟩
      case round =>
        clear hown hch hPP hb hb1 e2
        obtain ⟨link, rfl, hex, hb2, rfl, hown2⟩ := hrel
        have hsp := leastF_spec (P := fun n => chainOk σ n link = true ∧ σ.pairAt n link = PP) hex
        obtain ⟨n0, hn0⟩ : ∃ n0, (leastF fun n => chainOk σ n link = true ∧ σ.pairAt n link = PP) = n0 := ⟨_, rfl⟩
        rw [hn0] at hsp
        have HN0 := Lib.hid hn0
        clear hex hn0
        obtain ⟨hc0, hp0⟩ := hsp
        cases n0 with
        | zero => cases hc0
        | succ n0 =>
        by_cases h0 : link = 0
        · have hP : PP = none := by rw [← hp0]; unfold St.pairAt; rw [if_pos h0]
          have HO2 := Lib.hid (And.intro hb2 (And.intro hown2 hP))
          have hlt' := hlt
          have fl1 : ((link : Int) == 0) = true := by first | (simp; done) | (simp; omega)
          have fl2 : ((link : Int) = 0) = True := by first | (simp; done) | (simp; omega)
          have fl3 : (link = 0) = True := by first | (simp; done) | (simp; omega)
          have fl4 : (link == 0) = true := by first | (simp; done) | (simp; omega)
          have fl5 : ((link : Int) != 0) = false := by first | (simp; done) | (simp; omega)
          clear hc0 hp0 h0 hP hown2 hb2 hlt hlt'
          go_wp2
          go_roundw
          case rel =>
            obtain ⟨hb2, hown2, hP⟩ := HO2.out
            have hsu := HSU.out
            rw [hP] at hsu
            simp only [List.append_nil] at hsu
            exact ⟨k + 1, HK0.out.2.2, rfl, hb2, av, cap, by rw [hsu, HMX.out.1], by rw [hsu, HMX.out.1, HMX.out.2]; exact hown2⟩
          case measure => have := HK0.out.2.2; simp [intOf]; omega
        · unfold chainOk at hc0
          unfold St.pairAt at hp0
          rw [if_neg h0] at hp0
          rw [show (link == 0) = false by simpa using h0, Bool.false_or] at hc0
          simp only [Bool.and_eq_true] at hc0
          obtain ⟨⟨⟨hv, hw0⟩, hw1⟩, hc1⟩ := hc0
          have hvl := vl_iff hv
          have hr2 := HRR.out.1.below hb2
          have hsl2 := hr2.sl
          have e2 := HE2.out wr hb2
          have HKE : Hid (∀ w', Below wr.heap.size wr w' → w'.cell? ⟨A.be, 2, none⟩ = some (.pointer (some ⟨A.ba, 0, none⟩))) := fun w' hb => (hr2.below hb).eng 2 rfl
          obtain ⟨ws, hws⟩ : ∃ ws : Int → Int, ∀ k : Nat, ws (k : Int) = ((wslot link k : Nat) : Int) := ⟨fun z => ((wslot link z.toNat : Nat) : Int), fun k => rfl⟩
          obtain ⟨pw, hpw⟩ : ∃ pw : Int → Int, ∀ i : Nat, pw (i : Int) = ((σ.word i : Nat) : Int) := ⟨fun z => ((σ.word z.toNat : Nat) : Int), fun k => rfl⟩
          obtain ⟨dn, hdn⟩ : ∃ dn : Int → Bool, ∀ x : Nat, dn (x : Int) = σ.done x := ⟨fun z => σ.done z.toNat, fun k => rfl⟩
          have e0 : ws 0 = ((wslot link 0 : Nat) : Int) := hws 0
          have e1 : ws 1 = ((wslot link 1 : Nat) : Int) := hws 1
          have e2w : ws 2 = ((wslot link 2 : Nat) : Int) := hws 2
          have p0 : pw (ws 0) = ((σ.word (wslot link 0) : Nat) : Int) := by rw [e0]; exact hpw _
          have p1 : pw (ws 1) = ((σ.word (wslot link 1) : Nat) : Int) := by rw [e1]; exact hpw _
          have p2 : pw (ws 2) = ((σ.word (wslot link 2) : Nat) : Int) := by rw [e2w]; exact hpw _
          have x0 : dn (pw (ws 0)) = σ.done (σ.word (wslot link 0)) := by rw [p0]; exact hdn _
          have x1 : dn (pw (ws 1)) = σ.done (σ.word (wslot link 1)) := by rw [p1]; exact hdn _
          have HSL : Hid (∀ z : Int, (z = 0 ∨ z = 1 ∨ z = 2) → ∀ w0, Calls Tryz.prog 62 #[.int .u64 (link : Int), .int .i64 z] w0 fun e w' => e = .returned (.int .i64 (ws z)) ∧ w0 = w') := by
            rintro z (rfl | rfl | rfl) w0
            · rw [e0]; exact slot_at link 0 0 rfl hvl.lo (by have := hvl.hi; omega) hvl.u (by omega) w0
            · rw [e1]; exact slot_at link 1 1 rfl hvl.lo (by have := hvl.hi; omega) hvl.u (by omega) w0
            · rw [e2w]; exact slot_at link 2 2 rfl hvl.lo (by have := hvl.hi; omega) hvl.u (by omega) w0
          have HPK : Hid (∀ z : Int, (z = ws 0 ∨ z = ws 1 ∨ z = ws 2) → ∀ w0, Below wr.heap.size wr w0 → Calls Tryz.prog 60 #[.pointer (some ⟨A.ba, 0, none⟩), .int .i64 z] w0 fun e w' => e = .returned (.int .u64 (pw z)) ∧ Below wr.heap.size wr w') := by
            rintro z (rfl | rfl | rfl) w0 hb
            · rw [p0, e0]; exact peek_ok hr2 hb _ (wslot_lt hr2 hvl.lo hvl.hi (by omega))
            · rw [p1, e1]; exact peek_ok hr2 hb _ (wslot_lt hr2 hvl.lo hvl.hi (by omega))
            · rw [p2, e2w]; exact peek_ok hr2 hb _ (wslot_lt hr2 hvl.lo hvl.hi (by omega))
          have HDN : Hid (∀ z : Int, (z = pw (ws 0) ∨ z = pw (ws 1)) → ∀ w0, Below wr.heap.size wr w0 → Calls Tryz.prog 63 #[.pointer (some ⟨A.be, 0, none⟩), .int .u64 z] w0 fun e w' => e = .returned (.bool (dn z)) ∧ Below wr.heap.size wr w') := by
            rintro z (rfl | rfl) w0 hb
            · rw [x0, p0]; exact done_ok hr2 hb hw0
            · rw [x1, p1]; exact done_ok hr2 hb hw1
          have HDT : Hid (∀ w0, Below wr.heap.size wr w0 → (∀ w1, w1 = w0 → Calls Tryz.prog 64 #[.pointer (some ⟨A.be, 0, none⟩), .int .u64 (link : Int)] w1 fun e w' => e = .returned (.pointer (some ⟨A.bv, 2 * slotOf link, none⟩)) ∧ w1 = w') ∧ w0.cell? ⟨A.bv, 2 * slotOf link + 1, none⟩ = some (.int .i64 (σ.valueOf link : Int)) ∧ Below w.heap.size w w0 ∧ w0.ownsRow w.heap.size 140 2 (.slice av m cap) m xs) := fun w0 hb => ⟨fun w1 e => by subst e; exact data_any (hr2.below hb) link hvl.lo hvl.hi hvl.u, ((hr2.below hb).val (slotOf_lt hvl)).2, hb2.trans (hb.mono hb2.size), own_same hown2 fun g hg => hb.block g (hown2.lt g hg).2⟩
          have HB0 : Below wr.heap.size wr wr.drew := (Below.refl _ _).drew
          have HM4 := Lib.hid hm4
          rw [← x0, ← x1] at hc1 hp0
          have HC1 := Lib.hid (And.intro hc1 hp0)
          have fl1 : ((link : Int) == 0) = false := by first | (simp; done) | (simp; omega)
          have fl2 : ((link : Int) = 0) = False := by first | (simp; done) | (simp; omega)
          have fl3 : (link = 0) = False := by first | (simp; done) | (simp; omega)
          have fl4 : (link == 0) = false := by first | (simp; done) | (simp; omega)
          have fl5 : ((link : Int) != 0) = true := by first | (simp; done) | (simp; omega)
          clear hv hw0 hw1 hc1 hp0 hvl hr2 hsl2 hb2 hown2 h0 hlt hm4
          clear hws hpw hdn e0 e1 e2w p0 p1 x0 x1
          generalize σ.word (wslot link 2) = xn at *
          have HP2 := Lib.hid p2
          clear p2
          go_wp2_with fail
          cases hdb : dn (pw (ws 0)) with
          | true =>
            rw [hdb] at HC1
            cases hde : dn (pw (ws 1)) with
            | true =>
              rw [hde] at HC1
              go_region_held3 (fun w' => w'.cell? ⟨A.be, 2, none⟩ = some (.pointer (some ⟨A.ba, 0, none⟩)))
                (first | exact e2 | assumption | exact HKE.out _ (by assumption))
                (first | (go_at_call 62; refine (HSL.out _ (by first | exact Or.inl rfl | exact Or.inr (Or.inl rfl) | exact Or.inr (Or.inr rfl)) _).mono ?_; rintro e w' ⟨rfl, rfl⟩) | (go_at_call 60; refine (HPK.out _ (by first | exact Or.inl rfl | exact Or.inr (Or.inl rfl) | exact Or.inr (Or.inr rfl)) _ (by assumption)).mono ?_; rintro e w3 ⟨rfl, hb3⟩) | (go_at_call 63; refine (HDN.out _ (by first | exact Or.inl rfl | exact Or.inr rfl) _ (by assumption)).mono ?_; rintro e w4 ⟨rfl, hb4⟩))
              clear HB0
              go_wp2_with fail
              have e2' := HKE.out _ hb4
              obtain ⟨_, _, hbw, how⟩ := HDT.out _ hb4
              have HBD := (hb4).drew
              go_region_held3 (fun w' => w'.cell? ⟨A.be, 2, none⟩ = some (.pointer (some ⟨A.ba, 0, none⟩)))
                (first | exact e2' | assumption | exact HKE.out _ (by assumption))
                (first | (go_at_call 62; refine (HSL.out _ (by first | exact Or.inl rfl | exact Or.inr (Or.inl rfl) | exact Or.inr (Or.inr rfl)) _).mono ?_; rintro e w' ⟨rfl, rfl⟩) | (go_at_call 60; refine (HPK.out _ (by first | exact Or.inl rfl | exact Or.inr (Or.inl rfl) | exact Or.inr (Or.inr rfl)) _ (by assumption)).mono ?_; rintro e w7 ⟨rfl, hb7⟩))
              obtain ⟨_, _, hbw7, how7⟩ := HDT.out _ hb7
              have HO7 := Lib.hid (And.intro hbw7 how7)
              clear hbw how hbw7 how7
              go_wp2_with fail
              go_roundw
              case rel =>
                obtain ⟨hc1, hp0⟩ := HC1.out
                exact ⟨xn, by rw [HP2.out], ⟨n0, by simpa using hc1, by simpa using hp0⟩, HO7.out.1, rfl, HO7.out.2⟩
              case measure =>
                obtain ⟨hc1, hp0⟩ := HC1.out
                rw [HP2.out]
                exact Nat.lt_of_le_of_lt (leastF_le (P := fun n => chainOk σ n xn = true ∧ σ.pairAt n xn = PP) ⟨by simpa using hc1, by simpa using hp0⟩) (Nat.lt_of_lt_of_eq (Nat.lt_succ_self n0) HN0.out.symm)
            | false =>
              rw [hde] at HC1
              go_region_held3 (fun w' => w'.cell? ⟨A.be, 2, none⟩ = some (.pointer (some ⟨A.ba, 0, none⟩)))
                (first | exact e2 | assumption | exact HKE.out _ (by assumption))
                (first | (go_at_call 62; refine (HSL.out _ (by first | exact Or.inl rfl | exact Or.inr (Or.inl rfl) | exact Or.inr (Or.inr rfl)) _).mono ?_; rintro e w' ⟨rfl, rfl⟩) | (go_at_call 60; refine (HPK.out _ (by first | exact Or.inl rfl | exact Or.inr (Or.inl rfl) | exact Or.inr (Or.inr rfl)) _ (by assumption)).mono ?_; rintro e w3 ⟨rfl, hb3⟩) | (go_at_call 63; refine (HDN.out _ (by first | exact Or.inl rfl | exact Or.inr rfl) _ (by assumption)).mono ?_; rintro e w4 ⟨rfl, hb4⟩))
              clear HB0
              obtain ⟨hdt, hval, hbw, how⟩ := HDT.out _ hb4
              have HDD := Lib.hid (hdt _ rfl)
              have hm4 := HM4.out
              have hPv : PP = some (σ.valueOf link) := by have h := HC1.out.2; simpa using h.symm
              have HPV := Lib.hid hPv
              clear hdt hPv
              generalize 2 * slotOf link = iv at *
              generalize σ.valueOf link = va at *
              go_wp2_with (first | (go_at_call 64; refine HDD.out.mono ?_; rintro e w' ⟨rfl, rfl⟩) | (refine wp_pair _ rfl _ _ rfl w (by assumption) _ _ _ _ rfl (by assumption) (by omega) _ _ rfl ?_; intro avl capl wl ql pl))
              go_roundw
              case rel =>
                have hsu := HSU.out
                rw [HPV.out] at hsu
                simp only at hsu
                refine ⟨k + 1, HK0.out.2.2, rfl, pl, avl, capl, by rw [hsu, List.length_append, HMX.out.1]; rfl, ?_⟩
                rw [hsu, pairCs_snoc, List.length_append, HMX.out.1, HMX.out.2]
                exact ql
              case measure => have := HK0.out.2.2; simp [intOf]; omega
          | false =>
            rw [hdb] at HC1
            refine wp_region_held_drew (S := fun w' => w'.cell? ⟨A.be, 2, none⟩ = some (.pointer (some ⟨A.ba, 0, none⟩))) (by kernel_rfl) ?_ (fun hHeld => ?_)
            · (try dsimp only); exact e2
            refine wpAnyH_take (i := 0) (v := ?_) rfl (by kernel_rfl) (by kernel_rfl) (by kernel_rfl) (fun _ _ _ h => h) (Or.inl ⟨by rfl, ?_⟩) hHeld ?_
            rotate_left
            · (intro w hSw; (try dsimp only at hSw); go_simp; (try with_reducible rfl))
            (try simp only [List.getElem_toArray, List.getElem_cons_succ, List.getElem_cons_zero, Act.put, List.setIfInBounds_toArray, List.set_cons_zero, List.set_cons_succ])
            refine wpAnyH_take (i := 1) (v := ?_) rfl (by kernel_rfl) (by kernel_rfl) (by kernel_rfl) (fun _ _ _ h => h) (Or.inl ⟨by rfl, ?_⟩) hHeld ?_
            rotate_left
            · (intro w hSw; (try dsimp only at hSw); go_simp; (try with_reducible rfl))
            (try simp only [List.getElem_toArray, List.getElem_cons_succ, List.getElem_cons_zero, Act.put, List.setIfInBounds_toArray, List.set_cons_zero, List.set_cons_succ])
            refine wpAnyH_take (i := 2) (v := ?_) rfl (by kernel_rfl) (by kernel_rfl) (by kernel_rfl) (fun _ _ _ h => h) (Or.inl ⟨by rfl, ?_⟩) hHeld ?_
            rotate_left
            · (intro w hSw; (try dsimp only at hSw); go_simp; (try with_reducible rfl))
            (try simp only [List.getElem_toArray, List.getElem_cons_succ, List.getElem_cons_zero, Act.put, List.setIfInBounds_toArray, List.set_cons_zero, List.set_cons_succ])
            refine wpAnyH_take (i := 3) (v := ?_) rfl (by kernel_rfl) (by kernel_rfl) (by kernel_rfl) (fun _ _ _ h => h) (Or.inl ⟨by rfl, ?_⟩) hHeld ?_
            rotate_left
            · (intro w hSw; (try dsimp only at hSw); go_simp; (try with_reducible rfl))
            (try simp only [List.getElem_toArray, List.getElem_cons_succ, List.getElem_cons_zero, Act.put, List.setIfInBounds_toArray, List.set_cons_zero, List.set_cons_succ])
            refine wpAnyH_take (i := 4) (v := ?_) rfl (by kernel_rfl) (by kernel_rfl) (by kernel_rfl) (fun _ _ _ h => h) (Or.inl ⟨by rfl, ?_⟩) hHeld ?_
            rotate_left
            · (intro w hSw; (try dsimp only at hSw); go_simp; (try with_reducible rfl))
            (try simp only [List.getElem_toArray, List.getElem_cons_succ, List.getElem_cons_zero, Act.put, List.setIfInBounds_toArray, List.set_cons_zero, List.set_cons_succ])
            refine wpAnyH_take (i := 5) (v := ?_) rfl (by kernel_rfl) (by kernel_rfl) (by kernel_rfl) (fun _ _ _ h => h) (Or.inl ⟨by rfl, ?_⟩) hHeld ?_
            rotate_left
            · (intro w hSw; (try dsimp only at hSw); go_simp; (try with_reducible rfl))
            (try simp only [List.getElem_toArray, List.getElem_cons_succ, List.getElem_cons_zero, Act.put, List.setIfInBounds_toArray, List.set_cons_zero, List.set_cons_succ])
            refine wpAnyH_ready (rs := [6]) (by kernel_rfl) (by simp) ?_
            refine AllReadyH.cons (o := _) rfl (fun K hK => ?_) ?_
            rotate_left
            · exact AllReadyH.nil
            go_simp
            (first | (go_at_call 62; refine (HSL.out _ (by first | exact Or.inl rfl | exact Or.inr (Or.inl rfl) | exact Or.inr (Or.inr rfl)) _).mono ?_; rintro e w' ⟨rfl, rfl⟩) | (go_at_call 60; refine (HPK.out _ (by first | exact Or.inl rfl | exact Or.inr (Or.inl rfl) | exact Or.inr (Or.inr rfl)) _ (by assumption)).mono ?_; rintro e w3 ⟨rfl, hb3⟩) | (go_at_call 63; refine (HDN.out _ (by first | exact Or.inl rfl | exact Or.inr rfl) _ (by assumption)).mono ?_; rintro e w4 ⟨rfl, hb4⟩))
            refine hK.out _ _ ?_ (fun hHeld => ?_)
            · (try dsimp only); exact HKE.out _ (by assumption)
            clear hK K
            (try simp only [List.getElem_toArray, List.getElem_cons_succ, List.getElem_cons_zero, Act.put, List.setIfInBounds_toArray, List.set_cons_zero, List.set_cons_succ])
            refine wpAnyH_ready (rs := [7]) (by kernel_rfl) (by simp) ?_
            refine AllReadyH.cons (o := _) rfl (fun K hK => ?_) ?_
            rotate_left
            · exact AllReadyH.nil
            go_simp
            (first | (go_at_call 62; refine (HSL.out _ (by first | exact Or.inl rfl | exact Or.inr (Or.inl rfl) | exact Or.inr (Or.inr rfl)) _).mono ?_; rintro e w' ⟨rfl, rfl⟩) | (go_at_call 60; refine (HPK.out _ (by first | exact Or.inl rfl | exact Or.inr (Or.inl rfl) | exact Or.inr (Or.inr rfl)) _ (by assumption)).mono ?_; rintro e w3 ⟨rfl, hb3⟩) | (go_at_call 63; refine (HDN.out _ (by first | exact Or.inl rfl | exact Or.inr rfl) _ (by assumption)).mono ?_; rintro e w4 ⟨rfl, hb4⟩))
            refine hK.out _ _ ?_ (fun hHeld => ?_)
            · (try dsimp only); exact HKE.out _ (by assumption)
            clear hK K
            (try simp only [List.getElem_toArray, List.getElem_cons_succ, List.getElem_cons_zero, Act.put, List.setIfInBounds_toArray, List.set_cons_zero, List.set_cons_succ])
            refine wpAnyH_ready (rs := [8]) (by kernel_rfl) (by simp) ?_
            refine AllReadyH.cons (o := _) rfl (fun K hK => ?_) ?_
            rotate_left
            · exact AllReadyH.nil
            go_simp
            (first | (go_at_call 62; refine (HSL.out _ (by first | exact Or.inl rfl | exact Or.inr (Or.inl rfl) | exact Or.inr (Or.inr rfl)) _).mono ?_; rintro e w' ⟨rfl, rfl⟩) | (go_at_call 60; refine (HPK.out _ (by first | exact Or.inl rfl | exact Or.inr (Or.inl rfl) | exact Or.inr (Or.inr rfl)) _ (by assumption)).mono ?_; rintro e w3 ⟨rfl, hb3⟩) | (go_at_call 63; refine (HDN.out _ (by first | exact Or.inl rfl | exact Or.inr rfl) _ (by assumption)).mono ?_; rintro e w4 ⟨rfl, hb4⟩))
            refine hK.out _ _ ?_ (fun hHeld => ?_)
            · (try dsimp only); exact HKE.out _ (by assumption)
            clear hK K
            (try simp only [List.getElem_toArray, List.getElem_cons_succ, List.getElem_cons_zero, Act.put, List.setIfInBounds_toArray, List.set_cons_zero, List.set_cons_succ])
            refine wpAnyH_take (i := 9) (v := ?_) rfl (by kernel_rfl) (by kernel_rfl) (by kernel_rfl) (fun _ _ _ h => h) (Or.inl ⟨by rfl, ?_⟩) hHeld ?_
            rotate_left
            · (intro w hSw; (try dsimp only at hSw); go_simp; (try with_reducible rfl))
            (try simp only [List.getElem_toArray, List.getElem_cons_succ, List.getElem_cons_zero, Act.put, List.setIfInBounds_toArray, List.set_cons_zero, List.set_cons_succ])
            refine wpAnyH_take (i := 10) (v := undef) rfl (by kernel_rfl) (by kernel_rfl) (by kernel_rfl) (fun _ _ _ h => h) (Or.inr ⟨by rfl, rfl⟩) hHeld ?_
            (try simp only [List.getElem_toArray, List.getElem_cons_succ, List.getElem_cons_zero, Act.put, List.setIfInBounds_toArray, List.set_cons_zero, List.set_cons_succ])
            refine wpAnyH_take (i := 11) (v := undef) rfl (by kernel_rfl) (by kernel_rfl) (by kernel_rfl) (fun _ _ _ h => h) (Or.inr ⟨by rfl, rfl⟩) hHeld ?_
            (try simp only [List.getElem_toArray, List.getElem_cons_succ, List.getElem_cons_zero, Act.put, List.setIfInBounds_toArray, List.set_cons_zero, List.set_cons_succ])
            refine wpAnyH_take (i := 12) (v := undef) rfl (by kernel_rfl) (by kernel_rfl) (by kernel_rfl) (fun _ _ _ h => h) (Or.inr ⟨by rfl, rfl⟩) hHeld ?_
            (try simp only [List.getElem_toArray, List.getElem_cons_succ, List.getElem_cons_zero, Act.put, List.setIfInBounds_toArray, List.set_cons_zero, List.set_cons_succ])
            refine wpAnyH_take (i := 13) (v := undef) rfl (by kernel_rfl) (by kernel_rfl) (by kernel_rfl) (fun _ _ _ h => h) (Or.inr ⟨by rfl, rfl⟩) hHeld ?_
            (try simp only [List.getElem_toArray, List.getElem_cons_succ, List.getElem_cons_zero, Act.put, List.setIfInBounds_toArray, List.set_cons_zero, List.set_cons_succ])
            refine wpAnyH_take (i := 14) (v := undef) rfl (by kernel_rfl) (by kernel_rfl) (by kernel_rfl) (fun _ _ _ h => h) (Or.inr ⟨by rfl, rfl⟩) hHeld ?_
            (try simp only [List.getElem_toArray, List.getElem_cons_succ, List.getElem_cons_zero, Act.put, List.setIfInBounds_toArray, List.set_cons_zero, List.set_cons_succ])
            refine wpAnyH_take (i := 15) (v := undef) rfl (by kernel_rfl) (by kernel_rfl) (by kernel_rfl) (fun _ _ _ h => h) (Or.inr ⟨by rfl, rfl⟩) hHeld ?_
            (try simp only [List.getElem_toArray, List.getElem_cons_succ, List.getElem_cons_zero, Act.put, List.setIfInBounds_toArray, List.set_cons_zero, List.set_cons_succ])
            refine wpAnyH_take (i := 16) (v := undef) rfl (by kernel_rfl) (by kernel_rfl) (by kernel_rfl) (fun _ _ _ h => h) (Or.inr ⟨by rfl, rfl⟩) hHeld ?_
            (try simp only [List.getElem_toArray, List.getElem_cons_succ, List.getElem_cons_zero, Act.put, List.setIfInBounds_toArray, List.set_cons_zero, List.set_cons_succ])
            refine wpAnyH_take (i := 17) (v := undef) rfl (by kernel_rfl) (by kernel_rfl) (by kernel_rfl) (fun _ _ _ h => h) (Or.inr ⟨by rfl, rfl⟩) hHeld ?_
            (try simp only [List.getElem_toArray, List.getElem_cons_succ, List.getElem_cons_zero, Act.put, List.setIfInBounds_toArray, List.set_cons_zero, List.set_cons_succ])
            refine wpAnyH_take (i := 18) (v := undef) rfl (by kernel_rfl) (by kernel_rfl) (by kernel_rfl) (fun _ _ _ h => h) (Or.inr ⟨by rfl, rfl⟩) hHeld ?_
            (try simp only [List.getElem_toArray, List.getElem_cons_succ, List.getElem_cons_zero, Act.put, List.setIfInBounds_toArray, List.set_cons_zero, List.set_cons_succ])
            refine wpAnyH_take (i := 19) (v := undef) rfl (by kernel_rfl) (by kernel_rfl) (by kernel_rfl) (fun _ _ _ h => h) (Or.inr ⟨by rfl, rfl⟩) hHeld ?_
            (try simp only [List.getElem_toArray, List.getElem_cons_succ, List.getElem_cons_zero, Act.put, List.setIfInBounds_toArray, List.set_cons_zero, List.set_cons_succ])
            refine wpAnyH_take (i := 20) (v := ?_) rfl (by kernel_rfl) (by kernel_rfl) (by kernel_rfl) (fun _ _ _ h => h) (Or.inl ⟨by rfl, ?_⟩) hHeld ?_
            rotate_left
            · (intro w hSw; (try dsimp only at hSw); go_simp; (try with_reducible rfl))
            (try simp only [List.getElem_toArray, List.getElem_cons_succ, List.getElem_cons_zero, Act.put, List.setIfInBounds_toArray, List.set_cons_zero, List.set_cons_succ])
            refine wpAnyH_done (by kernel_rfl) ?_ _
            clear HB0
            go_wp2_with fail
            have e2' := HKE.out _ hb4
            obtain ⟨_, _, hbw, how⟩ := HDT.out _ hb4
            have HBD := (hb4).drew
            go_region_held3 (fun w' => w'.cell? ⟨A.be, 2, none⟩ = some (.pointer (some ⟨A.ba, 0, none⟩)))
              (first | exact e2' | assumption | exact HKE.out _ (by assumption))
              (first | (go_at_call 62; refine (HSL.out _ (by first | exact Or.inl rfl | exact Or.inr (Or.inl rfl) | exact Or.inr (Or.inr rfl)) _).mono ?_; rintro e w' ⟨rfl, rfl⟩) | (go_at_call 60; refine (HPK.out _ (by first | exact Or.inl rfl | exact Or.inr (Or.inl rfl) | exact Or.inr (Or.inr rfl)) _ (by assumption)).mono ?_; rintro e w7 ⟨rfl, hb7⟩))
            obtain ⟨_, _, hbw7, how7⟩ := HDT.out _ hb7
            have HO7 := Lib.hid (And.intro hbw7 how7)
            clear hbw how hbw7 how7
            go_wp2_with fail
            go_roundw
            case rel =>
              obtain ⟨hc1, hp0⟩ := HC1.out
              exact ⟨xn, by rw [HP2.out], ⟨n0, by simpa using hc1, by simpa using hp0⟩, HO7.out.1, rfl, HO7.out.2⟩
            case measure =>
              obtain ⟨hc1, hp0⟩ := HC1.out
              rw [HP2.out]
              exact Nat.lt_of_le_of_lt (leastF_le (P := fun n => chainOk σ n xn = true ∧ σ.pairAt n xn = PP) ⟨by simpa using hc1, by simpa using hp0⟩) (Nat.lt_of_lt_of_eq (Nat.lt_succ_self n0) HN0.out.symm)
    · obtain rfl : k = 64 := by omega
      have HO := Lib.hid (And.intro hown hb)
      clear hown hb hlt hk
      go_wp2
      go_ret
      exact ⟨av, cap, rfl, HO.out.1, HO.out.2⟩
end Go.Proofs.YtbefcdjcefmicaaGreat.Em

namespace Go.Proofs.YtbefcdjcefmicaaGreat.Em
open Go.ChangeShapes Go.WideShapes Go.ChangeAt Go.RowKit En
set_option linter.unusedVariables false
set_option linter.unusedSimpArgs false
set_option maxRecDepth 100000
set_option maxHeartbeats 1600000

/-- The engine lies at a block, whatever else it has taken since a world. -/
structure EAt (b : Nat) (w0 : World) (σ : St) (w : World) : Prop where
  ex : ∃ A : Book, A.be = b ∧ Live A σ w ∧ Grow (fun _ => none) w0 A.L w
theorem EAt.alloc {b : Nat} {w0 w : World} {σ : St} (h : EAt b w0 σ w) (o : Obj) : EAt b w0 σ (w.alloc o) :=
  let ⟨A, e, l, g⟩ := h.ex
  ⟨A, e, l.alloc _, g.trans (Grow.alloc _ _ _)⟩
theorem EAt.below {b : Nat} {w0 w w' : World} {σ : St} (h : EAt b w0 σ w) (hb : Below w.heap.size w w') : EAt b w0 σ w' :=
  let ⟨A, e, l, g⟩ := h.ex
  ⟨A, e, l.below hb, g.trans (Grow.below hb)⟩
theorem EAt.drew {b : Nat} {w0 w : World} {σ : St} (h : EAt b w0 σ w) (n : Nat) : EAt b w0 σ (w.drewN n) := h.below ⟨rfl, rfl, rfl, Nat.le_refl _, fun _ _ => rfl⟩
theorem EAt.toBelow {b : Nat} {w0 w : World} {σ : St} (h : EAt b w0 σ w) : Below w0.heap.size w0 w := let ⟨_, _, _, g⟩ := h.ex; g.toBelow
/-- A plain answer that is there. -/
def thn {α : Type} (x : Option α) (f : α → Bool) : Bool := match x with | some y => f y | none => false
theorem thn_ok {α : Type} {x : Option α} {f : α → Bool} (h : thn x f = true) : ∃ y, x = some y ∧ f y = true := by
  cases x with
  | none => cases h
  | some y => exact ⟨y, rfl, h⟩
theorem and_ok {a b : Bool} (h : (a && b) = true) : a = true ∧ b = true := by simpa using h
def EB (b : Nat) (w0 : World) (σ : St) (v : Value) : Ending → World → Prop := fun e w' => e = .returned v ∧ EAt b w0 σ w'
theorem new_at (n l : Nat) (h1 : 1 ≤ n) (h2 : n ≤ 256) (h3 : 1 ≤ l) (h4 : l ≤ 1099511627776) (w : World) :
    Calls Tryz.prog 26 #[.agg #[.int .i64 (n : Int), .int .u64 (l : Int)]] w fun e w' => ∃ b, e = .returned (.tuple #[.pointer (some ⟨b, 0, none⟩), .int .i64 0]) ∧ EAt b w (new n l) w' := by
  refine (engineNew n l h1 h2 h3 h4 w).mono ?_
  rintro e w' ⟨A, rfl, hL, g⟩
  exact ⟨A.be, rfl, A, rfl, hL, g⟩
theorem begin_at {b : Nat} {w0 w : World} {σ σ1 : St} (h : EAt b w0 σ w) {s level id : Nat} (hs : s < 8) (hr : beginOk σ s level = some (σ1, id)) :
    Calls Tryz.prog 41 #[.pointer (some ⟨b, 0, none⟩), .int .i64 (s : Int), .int .i64 (level : Int)] w (EB b w0 σ1 (.tuple #[.int .i64 (id : Int), .int .i64 0])) := by
  obtain ⟨A, rfl, hL, g⟩ := h.ex
  refine (begin_to hs hr A w hL).mono ?_
  rintro e w' ⟨A', rfl, hL', g', e'⟩
  exact ⟨rfl, A', e', hL', g.trans g'⟩
theorem beginNot_at {b : Nat} {w0 w : World} {σ σ1 : St} (h : EAt b w0 σ w) {s level er : Nat} (hs : s < 8) (hr : beginNot σ s level = some (σ1, er)) :
    Calls Tryz.prog 41 #[.pointer (some ⟨b, 0, none⟩), .int .i64 (s : Int), .int .i64 (level : Int)] w (EB b w0 σ1 (.tuple #[.int .i64 0, .int .i64 (er : Int)])) := by
  obtain ⟨A, rfl, hL, g⟩ := h.ex
  refine (beginNot_to hL hs hr).mono ?_
  rintro e w' ⟨A', rfl, hL', g', e'⟩
  exact ⟨rfl, A', e', hL', g.trans g'⟩
theorem issue_at {b : Nat} {w0 w : World} {σ σ1 : St} (h : EAt b w0 σ w) {s : Nat} {o : En.Op} (hs : s < 8) (hr : issueOk σ s o = some σ1) :
    Calls Tryz.prog 17 #[.pointer (some ⟨b, 0, none⟩), .int .i64 (s : Int), .agg #[.int .i64 (o.kind : Int), .int .i64 (o.key : Int), .int .i64 (o.hi : Int), .int .i64 (o.value : Int)]] w (EB b w0 σ1 (.int .i64 0)) := by
  obtain ⟨A, rfl, hL, g⟩ := h.ex
  refine (issue_to hs hr A w hL).mono ?_
  rintro e w' ⟨A', rfl, hL', g', e'⟩
  exact ⟨rfl, A', e', hL', g.trans g'⟩
theorem step_at {b : Nat} {w0 w : World} {σ σ1 : St} (h : EAt b w0 σ w) {s kd : Nat} {r : Res} (hs : s < 8) (hr : oneStep σ s = some (σ1, kd, r)) :
    Calls Tryz.prog 19 #[.pointer (some ⟨b, 0, none⟩), .int .i64 (s : Int)] w fun e w' => ∃ A va vn vc, e = .returned (.tuple #[.agg #[.int .i64 (kd : Int), .int .i64 (r.e : Int), .int .i64 (r.value : Int), .slice va vn vc, .int .i64 (r.over : Int), .int .i64 (r.reason : Int)], .int .i64 0]) ∧ FRow A.L w' 2 (.slice va vn vc) (pairCs r.pairs) ∧ A.be = b ∧ Live A σ1 w' ∧ Grow (fun _ => none) w0 A.L w' := by
  obtain ⟨A, rfl, hL, g⟩ := h.ex
  refine (step_calls hL hs hr).mono ?_
  rintro e w' ⟨A', vp, rfl, hf, hL', g', e'⟩
  obtain ⟨va, vn, vc, rfl⟩ := frow_form hf
  exact ⟨A', va, vn, vc, rfl, hf, e', hL', g.trans g'⟩
theorem do_at {b : Nat} {w0 w : World} {σ σ1 σ2 : St} (h : EAt b w0 σ w) {s F err : Nat} {o : En.Op} {r : Res} (hs : s < 8) (hi : issueOk σ s o = some σ1) (hF : F ≤ 13824000) (hr : runDo F σ1 s = some (σ2, r, err)) :
    Calls Tryz.prog 37 #[.pointer (some ⟨b, 0, none⟩), .int .i64 (s : Int), .agg #[.int .i64 (o.kind : Int), .int .i64 (o.key : Int), .int .i64 (o.hi : Int), .int .i64 (o.value : Int)]] w fun e w' => ∃ A va vn vc, e = .returned (.tuple #[.agg #[.int .i64 (r.e : Int), .int .i64 (r.value : Int), .slice va vn vc, .int .i64 (r.over : Int), .int .i64 (r.reason : Int)], .int .i64 (err : Int)]) ∧ FRow A.L w' 2 (.slice va vn vc) (pairCs r.pairs) ∧ A.be = b ∧ Live A σ2 w' ∧ Grow (fun _ => none) w0 A.L w' := by
  obtain ⟨A, rfl, hL, g⟩ := h.ex
  refine (do_any hL s hs o σ1 (issue_to hs hi) F hF σ2 r err hr).mono ?_
  rintro e w' ⟨A', vp, rfl, hf, hL', g', e'⟩
  obtain ⟨va, vn, vc, rfl⟩ := frow_form hf
  exact ⟨A', va, vn, vc, rfl, hf, e', hL', g.trans g'⟩
theorem prep_at {b : Nat} {w0 w : World} {σ σ2 : St} (h : EAt b w0 σ w) {s F : Nat} {x : Bool} (hs : s < 8) (hF : F ≤ 13824000) (hr : runPrep F σ s = some (σ2, x)) :
    Calls Tryz.prog 43 #[.pointer (some ⟨b, 0, none⟩), .int .i64 (s : Int)] w (EB b w0 σ2 (.bool x)) := by
  obtain ⟨A, rfl, hL, g⟩ := h.ex
  refine (prep_any hL s hs F hF σ2 x hr).mono ?_
  rintro e w' ⟨rfl, A', hL', g', e'⟩
  exact ⟨rfl, A', e', hL', g.trans g'⟩
theorem endNone_at {b : Nat} {w0 w : World} {σ σ2 : St} (h : EAt b w0 σ w) {F n : Nat} {x : Bool} (hr : runEnd (List.range 8) (mostOf σ.live.length) F σ 0 = some (σ2, n, x)) :
    Calls Tryz.prog 44 #[.pointer (some ⟨b, 0, none⟩), .slice none 0 0] w (EB b w0 σ2 (.tuple #[.int .i64 (n : Int), .bool x])) := by
  obtain ⟨A, rfl, hL, g⟩ := h.ex
  refine (end_any hL [] none 0 (FRow.nil _ _ _) (by simp) F σ2 n x (by rw [show roundOf [] = List.range 8 from rfl]; exact hr)).mono ?_
  rintro e w' ⟨rfl, A', hL', g', e'⟩
  exact ⟨rfl, A', e', hL', g.trans g'⟩
theorem now_at {b : Nat} {w0 w : World} {σ : St} (h : EAt b w0 σ w) (hx : σ.word 0 < 18446744073709551616) :
    Calls Tryz.prog 27 #[.pointer (some ⟨b, 0, none⟩)] w (EB b w0 σ (.int .u64 (σ.now : Int))) := by
  obtain ⟨A, rfl, hL, g⟩ := h.ex
  refine (now_any hL.rep hx).mono ?_
  rintro e w' ⟨rfl, hb⟩
  exact ⟨rfl, EAt.below ⟨A, rfl, hL, g⟩ hb⟩
theorem status_at {b : Nat} {w0 w : World} {σ : St} (h : EAt b w0 σ w) (s : Nat) (hs : s < 8) :
    Calls Tryz.prog 18 #[.pointer (some ⟨b, 0, none⟩), .int .i64 (s : Int)] w (EB b w0 σ (.agg (statusCs (σ.status s)))) := by
  obtain ⟨A, rfl, hL, g⟩ := h.ex
  refine (status_any hL s hs).mono ?_
  rintro e w' ⟨rfl, hb⟩
  exact ⟨rfl, EAt.below ⟨A, rfl, hL, g⟩ hb⟩
theorem live_at {b : Nat} {w0 w : World} {σ : St} (h : EAt b w0 σ w) :
    Calls Tryz.prog 30 #[.pointer (some ⟨b, 0, none⟩)] w fun e w' => ∃ av cap, e = .returned (.slice av σ.live.length cap) ∧ EAt b w0 σ w' := by
  obtain ⟨A, rfl, hL, g⟩ := h.ex
  refine (liveRow_any hL.rep).mono ?_
  rintro e w' ⟨av, cap, rfl, _, hb⟩
  exact ⟨av, cap, rfl, EAt.below ⟨A, rfl, hL, g⟩ hb⟩
theorem pairs_at {b : Nat} {w0 w : World} {σ : St} (h : EAt b w0 σ w) (hok : okPairs σ = true) :
    Calls Tryz.prog 32 #[.pointer (some ⟨b, 0, none⟩)] w fun e w' => ∃ av cap, e = .returned (.slice av σ.pairs.length cap) ∧ w'.ownsRow w.heap.size 140 2 (.slice av σ.pairs.length cap) σ.pairs.length (pairCs σ.pairs) ∧ EAt b w0 σ w' := by
  obtain ⟨A, rfl, hL, g⟩ := h.ex
  refine (pairs_any hL.rep hok).mono ?_
  rintro e w' ⟨av, cap, rfl, ho, hb⟩
  exact ⟨av, cap, rfl, ho, EAt.below ⟨A, rfl, hL, g⟩ hb⟩
theorem used_at {b : Nat} {w0 w : World} {σ : St} (h : EAt b w0 σ w) (hn : σ.free.length < 100000) (hu : σ.list.free.length + σ.worn ≤ σ.slots) :
    Calls Tryz.prog 28 #[.pointer (some ⟨b, 0, none⟩)] w (EB b w0 σ.list (.int .i64 (σ.used : Int))) := by
  obtain ⟨A, rfl, hL, g⟩ := h.ex
  refine (used_any hL.rep hL.mp hn hu).mono ?_
  rintro e w' ⟨rfl, A', ⟨⟨L, v, m, rfl⟩, pm⟩, hR', g'⟩
  have hc : σ.list.calls = σ.calls := by unfold St.list; split <;> rfl
  have ek : ∀ s, kp { A with L := L, vfree := v, mp := m } σ.list s = kp A σ s := fun s => by unfold kp St.c; rw [hc]
  refine ⟨rfl, { A with L := L, vfree := v, mp := m }, rfl, ⟨hR', pm.trans hL.mp, hL.mt, fun s h c hcs => ?_, fun s h hcs => hL.idle s h (by rw [← hc]; exact hcs)⟩, g.trans g'⟩
  obtain ⟨e1, k, e2, e3⟩ := hL.call s h c (by rw [← hc]; exact hcs)
  exact ⟨e1, k, e2, by rw [ek]; exact e3.grow g'⟩
/-- What a whole transaction answers: a row of results, each number at its place. -/
def WEnd (b : Nat) (w0 : World) (σ' : St) (rs : List Res) (err : Nat) : Ending → World → Prop := fun e w' =>
  ∃ rb ro rc, e = .returned (.tuple #[.slice (some ⟨rb, ro, none⟩) rs.length rc, .int .i64 (err : Int)]) ∧ EAt b w0 σ' w' ∧ ∀ k r, rs[k]? = some r →
    w'.cell? ⟨rb, ro + 5 * k, none⟩ = some (.int .i64 (r.e : Int)) ∧ w'.cell? ⟨rb, ro + 5 * k + 1, none⟩ = some (.int .i64 (r.value : Int)) ∧ w'.cell? ⟨rb, ro + 5 * k + 3, none⟩ = some (.int .i64 (r.over : Int)) ∧ w'.cell? ⟨rb, ro + 5 * k + 4, none⟩ = some (.int .i64 (r.reason : Int))
theorem resRow_get {L : Lab} {w : World} : ∀ (rs : List Res) (cs : List Value), ResRow L w rs cs → cs.length = rs.length * 5 ∧ ∀ k r, rs[k]? = some r → cs[5 * k]? = some (.int .i64 (r.e : Int)) ∧ cs[5 * k + 1]? = some (.int .i64 (r.value : Int)) ∧ cs[5 * k + 3]? = some (.int .i64 (r.over : Int)) ∧ cs[5 * k + 4]? = some (.int .i64 (r.reason : Int))
  | [], cs, h => ⟨by have e : cs = [] := h; rw [e]; rfl, fun k r hk => by simp at hk⟩
  | r0 :: rs, cs, h => by
    obtain ⟨v, c, rfl, _, h2⟩ := h
    obtain ⟨e, ih⟩ := resRow_get rs c h2
    refine ⟨by simp [e]; omega, fun k r hk => ?_⟩
    cases k with
    | zero => obtain rfl : r0 = r := by simpa using hk
              exact ⟨rfl, rfl, rfl, rfl⟩
    | succ k =>
      have := ih k r (by simpa using hk)
      rw [show 5 * (k + 1) = 5 * k + 5 by omega]
      exact this
theorem whole_at {b : Nat} {w0 w : World} {σ σ' : St} (h : EAt b w0 σ w) {s level F err : Nat} {ops : List En.Op} {rs : List Res} (xs : Array Value) (n : Nat) (hs : s < 8) (hF : F ≤ 13824000) (hr : runWhole F σ s level ops = some (σ', rs, err)) (hx : xs = (opsCs ops).toArray) (hl : ops.length = n) (hn : n ≤ 1000) (hrs : 0 < rs.length) :
    Calls Tryz.prog 34 #[.pointer (some ⟨b, 0, none⟩), .int .i64 (s : Int), .int .i64 (level : Int), .slice (some ⟨w.heap.size, 0, none⟩) n n] (w.alloc (.cells xs 31)) (WEnd b w0 σ' rs err) := by
  obtain ⟨A, rfl, hL, g⟩ := h.ex
  have hol : ∀ l : List En.Op, (opsCs l).length = l.length * 4 := fun l => by induction l with | nil => rfl | cons o l ih => simp [opsCs, ih]; omega
  subst hx
  refine (whole_any (hL.alloc _) s hs level ops _ n n (frow_block (xs := opsCs ops) (fix_next hL.rep.mem.fresh _ rfl) (by rw [hol, hl]) (by omega)) (by omega) F hF σ' rs err hr).mono ?_
  rintro e w' ⟨A', vo, cs, rfl, p1, p2, p3, p4, p5⟩
  obtain ⟨⟨a, m, cap, rfl, hlen, _, _, h5⟩, _⟩ := p1
  obtain ⟨q1, q2⟩ := resRow_get rs cs p2
  obtain rfl : m = rs.length := by omega
  rcases h5 with h5 | ⟨rb, ro, rfl, _, _, hc⟩
  · exact absurd h5 (by omega)
  · refine ⟨rb, ro, cap, rfl, ⟨A', p5, p3, (g.trans (Grow.alloc _ _ _)).trans p4⟩, fun k r hk => ?_⟩
    obtain ⟨z0, z1, z3, z4⟩ := q2 k r hk
    have hcc : ∀ j v, cs[j]? = some v → w'.cell? ⟨rb, ro + j, none⟩ = some v := fun j v hj => by
      have hj' : j < cs.length := by
        rcases Nat.lt_or_ge j cs.length with h | h
        · exact h
        · rw [List.getElem?_eq_none h] at hj; cases hj
      exact (hc j (by omega)).trans hj
    exact ⟨hcc _ _ z0, hcc _ _ z1, hcc _ _ z3, hcc _ _ z4⟩
end Go.Proofs.YtbefcdjcefmicaaGreat.Em
