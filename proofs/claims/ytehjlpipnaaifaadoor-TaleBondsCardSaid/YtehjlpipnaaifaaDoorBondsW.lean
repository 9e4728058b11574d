/- TaleBonds: the walk. -/
import Derived.Test.YtehjlpipnaaifaaDoorTelJ
import Derived.Test.YtehjlpipnaaifaaDoorBits
namespace Go.Proofs.YtehjlpipnaaifaaDoor.Tl
open Go.ChangeShapes Go.WideShapes Go.ChangeAt Go.RowKit
set_option linter.unusedVariables false
set_option linter.unusedSimpArgs false
set_option maxRecDepth 100000
set_option maxHeartbeats 1000000

def bg (t : Int) (n : Nat) : Er := ⟨1, t, n, 0, 0, 0, 1, 0, 0, none, 0, 0, 0, 0⟩
def pr (t : Int) (n : Nat) : Er := ⟨3, t, n, 0, 0, 0, 0, 0, 0, none, 0, 0, 0, 0⟩
def bd (t : Int) (n : Nat) : Er := ⟨4, t, n, 0, 0, 0, 0, 0, 0, none, 0, 0, 0, 0⟩
def dn (t : Int) : Er := ⟨5, t, 0, 0, 0, 0, 0, 0, 0, none, 0, 0, 0, 0⟩
def gn (t : Int) : Er := ⟨6, t, 0, 0, 0, 0, 0, 0, 0, none, 0, 0, 0, 0⟩
def cA (turn second : Bool) : Nat := if turn && second then 3 else 2
def lA (turn second : Bool) : List Er := [bg 1 1, bg 2 2] ++ (if turn && second then [pr 2 3] else [])
def cB (first turn second : Bool) : Nat := cA turn second + (if first then 1 else 0)
def lB (first turn second : Bool) : List Er := lA turn second ++ (if first then [pr 1 (cA turn second + 1)] else [])
def cC (first turn second : Bool) : Nat := cB first turn second + (if !turn && second then 1 else 0)
def lC (first turn second : Bool) : List Er := lB first turn second ++ (if !turn && second then [pr 2 (cB first turn second + 1)] else [])
def adj (first : Bool) (s : Nat) : Nat := if s > 0 ∧ first = false then 2 else s
def lD (first second turn early : Bool) (s : Nat) : List Er := lC first turn second ++ (if early then [] else if adj first s = 1 then [dn 1] else if adj first s = 2 then [gn 1] else [])
def lE (first second turn early : Bool) (s : Nat) : List Er := lD first second turn early s ++ [bd 2 1]
def goodB (first second turn early : Bool) (s : Nat) : Bool := !(first && second && turn) && (early || !(adj first s == 2))
def isB (first early : Bool) (s : Nat) : Bool := !early && adj first s == 1
theorem plain1 : ∀ (first second turn early : Bool) (s : Nat), s ≤ 2 → okM [] 0 0 (evs (lE first second turn early s)) = (if goodB first second turn early s then none else some (lD first second turn early s).length) := by
  intro first second turn early s hs
  have : s = 0 ∨ s = 1 ∨ s = 2 := by omega
  cases first <;> cases second <;> cases turn <;> cases early <;> rcases this with rfl | rfl | rfl <;> rfl
theorem plain2 : ∀ (first turn early : Bool) (s : Nat), s ≤ 2 → goodB first true turn early s = true → ∃ k, okM [] 0 0 (evs (lE first true turn early s ++ [dn 2])) = (if isB first early s then none else some k) := by
  intro first turn early s hs hg
  have : s = 0 ∨ s = 1 ∨ s = 2 := by omega
  cases first <;> cases turn <;> cases early <;> rcases this with rfl | rfl | rfl <;> first | exact ⟨_, rfl⟩ | exact ⟨0, rfl⟩ | exact absurd hg (by decide)
theorem lC_len (first turn second : Bool) : (lC first turn second).length ≤ 5 := by cases first <;> cases turn <;> cases second <;> decide
theorem lB_len (first turn second : Bool) : (lB first turn second).length ≤ 5 := by cases first <;> cases turn <;> cases second <;> decide
theorem lA_len (turn second : Bool) : (lA turn second).length ≤ 5 := by cases turn <;> cases second <;> decide
theorem lD_len (first second turn early : Bool) (s : Nat) (hs : s ≤ 2) : (lD first second turn early s).length ≤ 6 := by
  have : s = 0 ∨ s = 1 ∨ s = 2 := by omega
  cases first <;> cases turn <;> cases second <;> cases early <;> rcases this with rfl | rfl | rfl <;> decide

theorem ok_of {v : Value} {l : List Er} {w : World} (hrow : Evs w v l) (hn : ∀ e, e ∈ l → e.n < 18446744073709551616) (hlen : l.length ≤ 20000) (g : Bool) (k : Nat) (h : okM [] 0 0 (evs l) = if g then none else some k) :
    Calls Tryd.prog 7 #[v] w fun e w' => ∃ at' : Int, e = .returned (.tuple #[.bool g, .int .i64 at']) ∧ (g = false → at' = (k : Int)) ∧ Below w.heap.size w w' := by
  refine (ok_any v l w hrow hn hlen).mono ?_
  rintro e w' ⟨he, hb⟩
  rw [h] at he
  cases g with
  | true => exact ⟨-1, he, fun h => (by cases h), hb⟩
  | false => exact ⟨(k : Int), he, fun _ => rfl, hb⟩
theorem lE_n (first second turn early : Bool) (s : Nat) (hs : s ≤ 2) : ∀ e, e ∈ lE first second turn early s → e.n < 18446744073709551616 := by
  have : s = 0 ∨ s = 1 ∨ s = 2 := by omega
  cases first <;> cases turn <;> cases second <;> cases early <;> rcases this with rfl | rfl | rfl <;> decide
theorem lF_n (first second turn early : Bool) (s : Nat) (hs : s ≤ 2) : ∀ e, e ∈ lE first second turn early s ++ [dn 2] → e.n < 18446744073709551616 := by
  intro e he
  rcases List.mem_append.1 he with he | he
  · exact lE_n _ _ _ _ s hs e he
  · obtain rfl := List.mem_singleton.1 he; decide
theorem wBonds (first second turn : Bool) (state : Int) (early : Bool) (w : World) (hst : -9223372036854775808 ≤ state ∧ state ≤ 9223372036854775807)
    (HA : Hid (∀ W, Calls Tryd.prog 8 #[] W fun e w' => e = .returned (.bool true) ∧ Below W.heap.size W w')) :
    Calls Tryd.prog 3 #[.bool first, .bool second, .bool turn, .int .i64 state, .bool early] w fun e w' => e = .returned (.bool true) ∧ Below w.heap.size w w' := by
  obtain ⟨s, hs2, hsv⟩ : ∃ s : Nat, s ≤ 2 ∧ (bits .and .i64 state 255).tmod 3 = (s : Int) := by
    rw [Bt.i64_and255]
    refine ⟨((state % 256).tmod 3).toNat, ?_, ?_⟩
    · rw [Int.tmod_eq_emod_of_nonneg (by omega)]; omega
    · rw [Int.tmod_eq_emod_of_nonneg (by omega)]; omega
  go_enter Tryd.func3, Tryd.ntmps3
  go_upto_region 4 with fail
  have hL0 : Lst w (w.heap.size + 1) (w.heap.size + 1 + 1) (((w.alloc (.cells (flat [bg 1 1, bg 2 2]).toArray 30)).alloc (.cells #[.slice (some ⟨w.heap.size, 0, none⟩) 2 2] 31)).alloc (.cells #[.int .u64 2] 22)) [bg 1 1, bg 2 2] 2 := by
    refine ⟨by omega, by omega, ?_, ⟨.slice (some ⟨w.heap.size, 0, none⟩) 2 2, ?_, ?_⟩, ?_⟩
    · have := heap_alloc_new ((w.alloc (.cells (flat [bg 1 1, bg 2 2]).toArray 30)).alloc (.cells #[.slice (some ⟨w.heap.size, 0, none⟩) 2 2] 31)) (.cells #[.int .u64 2] 22)
      simpa using this
    · rw [heap_alloc_old _ _ (by simp)]
      have := heap_alloc_new (w.alloc (.cells (flat [bg 1 1, bg 2 2]).toArray 30)) (.cells #[.slice (some ⟨w.heap.size, 0, none⟩) 2 2] 31)
      simpa using this
    · refine ⟨by simp [flat, evC], .inr ⟨w.heap.size, 2, (flat [bg 1 1, bg 2 2]).toArray, rfl, Nat.le_refl _, ?_, by decide, by decide, by simp [flat, evC], by simp [flat, evC]⟩⟩
      rw [heap_alloc_old _ _ (by simp; omega), heap_alloc_old _ _ (by simp), heap_alloc_new]
    · exact ((((Below.refl _ _).alloc (Nat.le_refl _) _).alloc (by simp) _).alloc (by simp; omega) _)
  go_cut [29] from 20 (fun s29 wc => s29 = .bool (turn && second) ∧ Lst w (w.heap.size + 1) (w.heap.size + 1 + 1) wc [bg 1 1, bg 2 2] 2)
  case first =>
    have HL0 := Lib.hid hL0
    clear hL0
    cases turn <;> cases second <;> (go_wp2_with fail; go_meet; case rel => exact ⟨rfl, HL0.out⟩)
  clear hL0
  obtain ⟨rfl, hL⟩ := hcut
  have hg1 : w.heap.size ≤ w.heap.size + 1 := by omega
  have hg2 : w.heap.size ≤ w.heap.size + 1 + 1 := by omega
  generalize w.heap.size + 1 + 1 = G2 at *
  generalize w.heap.size + 1 = G1 at *
  clear hg1 hg2
  go_upto_if 29 with fail
  go_cut [] from 20 (fun wc => Lst w G1 G2 wc (lA turn second) (cA turn second))
  case first =>
    have hprep := wBonds_prep hL (by decide) (by decide) 2
    have e1 : (turn && second) = false → Lst w G1 G2 wc (lA turn second) (cA turn second) := fun h => by unfold lA cA; rw [h]; exact hL
    have e2 : (turn && second) = true → lA turn second = [bg 1 1, bg 2 2] ++ [pr 2 3] ∧ cA turn second = 3 := fun h => by unfold lA cA; rw [h]; exact ⟨rfl, rfl⟩
    have E1 := Lib.hid e1
    have E2 := Lib.hid e2
    clear e1 e2 hL
    cases hb : (turn && second) with
    | false => go_wp2_with fail; go_meet; case rel => exact E1.out hb
    | true => go_wp2_with (go_at_call 6; refine hprep.mono ?_; rintro e w' ⟨rfl, hL2⟩; have HL2 := Lib.hid hL2; clear hL2); go_meet; case rel => rw [(E2.out hb).1, (E2.out hb).2]; exact HL2.out
  clear hL
  have hL := hcut
  clear hcut
  go_upto_if 32 with fail
  go_cut [] from 20 (fun wc => Lst w G1 G2 wc (lB first turn second) (cB first turn second))
  case first =>
    have hprep := wBonds_prep hL (by have := lA_len turn second; omega) (by unfold cA; split <;> omega) 1
    have HL := Lib.hid hL
    clear hL
    cases first with
    | false => go_wp2_with fail; go_meet; case rel => (have := HL.out; simpa [lB, cB] using this)
    | true => go_wp2_with (go_at_call 6; refine hprep.mono ?_; rintro e w' ⟨rfl, hL2⟩; have HL2 := Lib.hid hL2; clear hL2); go_meet; case rel => (have := HL2.out; simpa [lB, cB, pr] using this)
  clear hL
  have hL := hcut
  clear hcut
  go_upto_region 8 with fail
  go_cut [39] from 20 (fun s39 wc => s39 = .bool (!turn && second) ∧ Lst w G1 G2 wc (lB first turn second) (cB first turn second))
  case first =>
    have HL := Lib.hid hL
    clear hL
    cases turn <;> cases second <;> (go_wp2_with fail; go_meet; case rel => exact ⟨rfl, HL.out⟩)
  clear hL
  obtain ⟨rfl, hL⟩ := hcut
  go_upto_if 39 with fail
  go_cut [] from 20 (fun wc => Lst w G1 G2 wc (lC first turn second) (cC first turn second))
  case first =>
    have hprep := wBonds_prep hL (by have := lB_len first turn second; omega) (by unfold cB cA; split <;> split <;> omega) 2
    have HL := Lib.hid hL
    clear hL
    cases hb : (!turn && second) with
    | false => go_wp2_with fail; go_meet; case rel => (have := HL.out; unfold lC cC; rw [hb]; simpa using this)
    | true => go_wp2_with (go_at_call 6; refine hprep.mono ?_; rintro e w' ⟨rfl, hL2⟩; have HL2 := Lib.hid hL2; clear hL2); go_meet; case rel => (have := HL2.out; unfold lC cC; rw [hb]; simpa [pr] using this)
  clear hL
  have hL := hcut
  clear hcut
  go_upto_region 11 with fail
  clear hsv hst
  go_cut [50] from 20 (fun s50 wc => s50 = .bool (decide (s > 0) && !first) ∧ Lst w G1 G2 wc (lC first turn second) (cC first turn second))
  case first =>
    have HL := Lib.hid hL
    clear hL
    have : s = 0 ∨ s = 1 ∨ s = 2 := by omega
    rcases this with rfl | rfl | rfl <;> cases first <;> (go_wp2_with fail; go_meet; case rel => exact ⟨rfl, HL.out⟩)
  clear hL
  obtain ⟨rfl, hL⟩ := hcut
  go_upto_if 50 with fail
  go_cut [3] from 20 (fun s3 wc => s3 = .int .i64 ((adj first s : Nat) : Int) ∧ Lst w G1 G2 wc (lC first turn second) (cC first turn second))
  case first =>
    have HL := Lib.hid hL
    clear hL
    have hadj : adj first s = if (decide (s > 0) && !first) = true then 2 else s := by unfold adj; simp
    cases hb : (decide (s > 0) && !first) with
    | false => rw [hb] at hadj; go_wp2_with fail; go_meet; case rel => exact ⟨by rw [hadj]; rfl, HL.out⟩
    | true => rw [hb] at hadj; go_wp2_with fail; go_meet; case rel => exact ⟨by rw [hadj]; rfl, HL.out⟩
  clear hL
  obtain ⟨rfl, hL⟩ := hcut
  have hadj2 : adj first s ≤ 2 := by unfold adj; split <;> omega
  go_upto_if 52 with fail
  go_cut [3] from 20 (fun s3 wc => s3 = .int .i64 ((adj first s : Nat) : Int) ∧ Lst w G1 G2 wc (lD first second turn early s) (cC first turn second))
  case first =>
    have hlen := lC_len first turn second
    have hlD : lD first second turn early s = lC first turn second ++ (if early then [] else if adj first s = 1 then [dn 1] else if adj first s = 2 then [gn 1] else []) := rfl
    obtain ⟨L, hLL⟩ : ∃ L, L = lC first turn second := ⟨_, rfl⟩
    obtain ⟨s', hss⟩ : ∃ s', s' = adj first s := ⟨_, rfl⟩
    rw [← hLL] at hL hlen hlD
    rw [← hss] at hadj2 hlD ⊢
    have HD := Lib.hid hlD
    have HSS := Lib.hid hss
    clear hlD hLL hss
    obtain ⟨av, cap, c1, hown, hcap⟩ := hL.c1
    have HL := Lib.hid hL
    clear hL
    have hl' : L.length < 1000000 := by omega
    have hb1 := HL.out.bel.size
    cases early with
    | true => go_wp2_with fail; go_meet; case rel => exact ⟨by rw [← HSS.out]; try rfl, by rw [HD.out]; have := HL.out; simpa using this⟩
    | false =>
      have : s' = 0 ∨ s' = 1 ∨ s' = 2 := by omega
      rcases this with rfl | rfl | rfl
      · go_wp2_with fail; go_meet; case rel => exact ⟨by rw [← HSS.out]; try rfl, by rw [HD.out]; have := HL.out; simpa using this⟩
      · have hown2 := hown.alloc (.cells #[.int .i64 5, .int .i64 1, .int .u64 0, .int .i64 0, .int .i64 0, .int .i64 0, .int .i64 0, .int .i64 0, .int .i64 0, .slice none 0 0, .int .i64 0, .int .i64 0] 30)
        go_wp2_with (at_builtin; refine append_V _ rfl (.tmp 56) (.tmp 58) rfl w.heap.size (.slice av L.length cap) L.length (flat L) rfl hown2 ⟨wc.heap.size, 0, none⟩ 1 (dn 1) rfl ?c1 hl' ?c5 ?_)
        case c1 => exact fun j u h => h
        case c5 => exact Nat.le_trans hb1 (by simp)
        intro v' w2 hown3 hg2
        obtain ⟨h1, h2, h3, _⟩ := HL.out.snoc c1 (dn 1) hown3 hg2
        obtain ⟨a4, cap4, rfl, _, _, _⟩ := Ow.own_form hown3
        have H1 := Lib.hid h1
        clear h1 hown3 hg2 hown2 hown
        go_wp2_with fail
        go_meet
        case rel => exact ⟨by rw [← HSS.out]; try rfl, by rw [HD.out]; have := H1.out; simpa using this⟩
      · have hown2 := hown.alloc (.cells #[.int .i64 6, .int .i64 1, .int .u64 0, .int .i64 0, .int .i64 0, .int .i64 0, .int .i64 0, .int .i64 0, .int .i64 0, .slice none 0 0, .int .i64 0, .int .i64 0] 30)
        go_wp2_with (at_builtin; refine append_V _ rfl (.tmp 62) (.tmp 64) rfl w.heap.size (.slice av L.length cap) L.length (flat L) rfl hown2 ⟨wc.heap.size, 0, none⟩ 1 (gn 1) rfl ?c1 hl' ?c5 ?_)
        case c1 => exact fun j u h => h
        case c5 => exact Nat.le_trans hb1 (by simp)
        intro v' w2 hown3 hg2
        obtain ⟨h1, h2, h3, _⟩ := HL.out.snoc c1 (gn 1) hown3 hg2
        obtain ⟨a4, cap4, rfl, _, _, _⟩ := Ow.own_form hown3
        have H1 := Lib.hid h1
        clear h1 hown3 hg2 hown2 hown
        go_wp2_with fail
        go_meet
        case rel => exact ⟨by rw [← HSS.out]; try rfl, by rw [HD.out]; have := H1.out; simpa using this⟩
  clear hL
  obtain ⟨rfl, hL⟩ := hcut
  have hlen := lD_len first second turn early s hs2
  obtain ⟨g, hg⟩ : ∃ g, g = goodB first second turn early s := ⟨_, rfl⟩
  have hp1 := plain1 first second turn early s hs2
  rw [← hg] at hp1
  have hnE := lE_n first second turn early s hs2
  have hlE : lE first second turn early s = lD first second turn early s ++ [bd 2 1] := rfl
  have hnb : ((((adj first s : Nat) : Int)) != 2) = !(adj first s == 2) := by
    have : adj first s = 0 ∨ adj first s = 1 ∨ adj first s = 2 := by omega
    rcases this with h | h | h <;> rw [h] <;> rfl
  have hgE : g = (!(first && second && turn) && (early || !(adj first s == 2))) := hg
  have HG := Lib.hid hgE
  have HG0 := Lib.hid hg
  rw [hlE] at hp1 hnE
  generalize lD first second turn early s = L at *
  have HLE := Lib.hid hlE
  clear hg hgE hlE
  obtain ⟨av, cap, c1, hown, hcap⟩ := hL.c1
  have HL := Lib.hid hL
  clear hL
  have hl' : L.length < 1000000 := by omega
  have hb1 := HL.out.bel.size
  have hown2 := hown.alloc (.cells #[.int .i64 4, .int .i64 2, .int .u64 1, .int .i64 0, .int .i64 0, .int .i64 0, .int .i64 0, .int .i64 0, .int .i64 0, .slice none 0 0, .int .i64 0, .int .i64 0] 30)
  go_wp2_with (at_builtin; refine append_V _ rfl (.tmp 68) (.tmp 70) rfl w.heap.size (.slice av L.length cap) L.length (flat L) rfl hown2 ⟨wc.heap.size, 0, none⟩ 1 (bd 2 1) rfl ?c1 hl' ?c5 ?_)
  case c1 => first | exact fun j u h => h | exact Ow.new_row wc (evC (bd 2 1)) _ _ rfl
  case c5 => exact Nat.le_trans hb1 (by simp)
  intro v' w2 hown3 hg2
  obtain ⟨h1, h2, h3, h4⟩ := HL.out.snoc c1 (bd 2 1) hown3 hg2
  obtain ⟨a4, cap4, rfl, _, _, _⟩ := Ow.own_form hown3
  have HEV := Lib.hid (ok_of (h1.evs h4) hnE (by simp; omega) g L.length hp1)
  have HL2 := Lib.hid h1
  clear hown hown2 hown3 hg2 h1 h4 hp1 hnE c1 hcap HL hb1
  go_wp2_with fail
  refine HEV.out.mono ?_
  rintro e w3 ⟨at', rfl, hat, hb3⟩
  generalize w2.setCell ⟨G1, 0, none⟩ (.slice a4 (L.length + 1) cap4) = w4 at *
  have HAT := Lib.hid hat
  have HB3 := Lib.hid hb3
  clear hat hb3 HEV h2 h3
  go_upto_region 22 with fail
  go_cut [3, 17] from 77 (fun s3 s17 wc => s3 = .int .i64 ((adj first s : Nat) : Int) ∧ s17 = .bool g ∧ wc = w3)
  case first =>
    generalize (adj first s == 2) = nb at *
    clear HG0
    cases first <;> cases second <;> cases turn <;> cases early <;> (go_wp2_with fail; go_meet; case rel => exact ⟨rfl, by rw [HG.out]; cases nb <;> rfl, rfl⟩)
  obtain ⟨rfl, rfl, rfl⟩ := hcut
  cases g with
  | false =>
    obtain rfl : at' = (L.length : Int) := HAT.out rfl
    clear HAT HG HG0
    go_wp2_with (go_at_call 8; refine (HA.out _).mono ?_; rintro e w5 ⟨rfl, hb5⟩; have HB5 := Lib.hid hb5; clear hb5)
    go_ret
    exact ⟨rfl, (HL2.out.bel.trans (HB3.out.mono HL2.out.bel.size)).trans (HB5.out.mono (Nat.le_trans HL2.out.bel.size HB3.out.size))⟩
  | true =>
    cases second with
    | false =>
      clear HAT HG HG0
      go_wp2_with (go_at_call 8; refine (HA.out _).mono ?_; rintro e w5 ⟨rfl, hb5⟩; have HB5 := Lib.hid hb5; clear hb5)
      go_ret
      exact ⟨rfl, (HL2.out.bel.trans (HB3.out.mono HL2.out.bel.size)).trans (HB5.out.mono (Nat.le_trans HL2.out.bel.size HB3.out.size))⟩
    | true =>
      go_upto_region 27 with fail
      have hL3 := HL2.out.below HB3.out
      obtain ⟨k2, hp2⟩ := plain2 first turn early s hs2 HG0.out.symm
      obtain ⟨b, hb⟩ : ∃ b, b = isB first early s := ⟨_, rfl⟩
      rw [← hb, HLE.out] at hp2
      have HP2 := Lib.hid hp2
      have hb' : b = (!early && (adj first s == 1)) := hb
      have HBB := Lib.hid hb'
      clear hp2 hb hb'
      have hN2 := lF_n first true turn early s hs2
      rw [HLE.out] at hN2
      have HN2 := Lib.hid hN2
      clear hN2
      have hb3 := Lib.hid (HL2.out.bel.trans (HB3.out.mono HL2.out.bel.size))
      have hLE := hL3
      obtain ⟨a5, cap5, c5, hown5, hcap5⟩ := hL3.c1
      have c6 : (wc.alloc (.cells #[] 30)).cell? ⟨G1, 0, none⟩ = some (.slice a5 (L ++ [bd 2 1]).length cap5) := by
        rw [(((Below.refl wc.heap.size wc).alloc (Nat.le_refl _) (.cells #[] 30)).cell (p := ⟨G1, 0, none⟩) (lt_of hL3.ls.choose_spec.1)), c5]
      have hev : Evs (wc.alloc (.cells #[] 30)) (.slice a5 (L ++ [bd 2 1]).length cap5) (L ++ [bd 2 1]) := (hLE.evs c5).below ((Below.refl _ _).alloc (Nat.le_refl _) _)
      have hemp : (wc.alloc (.cells #[] 30)).ownsRow w.heap.size 30 12 (.slice (some ⟨wc.heap.size, 0, none⟩) 0 0) 0 [] :=
        ⟨rfl, .inr ⟨wc.heap.size, 0, #[], rfl, hb3.out.size, heap_alloc_new wc _, by decide, by decide, by simp, by simp⟩⟩
      have e5 : (L ++ [bd 2 1]).length = L.length + 1 := by simp
      rw [e5] at c6 hev
      have HEV := Lib.hid hev
      have HEM := Lib.hid hemp
      clear hL3 hLE hown5 hcap5 hev hemp c5
      go_wp2_with (at_builtin; refine append_VR _ rfl (.tmp 112) (.tmp 113) rfl w.heap.size (.slice (some ⟨wc.heap.size, 0, none⟩) 0 0) 0 [] rfl HEM.out (.slice a5 (L.length + 1) cap5) (L ++ [bd 2 1]) rfl HEV.out ?c1 ?c2 ?_)
      case c1 => simp; omega
      case c2 => have := hb3.out.size; simp; omega
      intro v' w5 hown6 hg6
      try rw [List.nil_append] at hown6
      try rw [Nat.zero_add] at hown6
      have hb6 : Below w.heap.size w w5 := (hb3.out.alloc hb3.out.size _).grown hg6 (by have := hb3.out.size; simp; omega) (fun k hk => (HEM.out.lt k hk).1)
      obtain ⟨a7, cap7, rfl, _, _, _⟩ := Ow.own_form hown6
      have hown7 := hown6.alloc (.cells #[.int .i64 5, .int .i64 2, .int .u64 0, .int .i64 0, .int .i64 0, .int .i64 0, .int .i64 0, .int .i64 0, .int .i64 0, .slice none 0 0, .int .i64 0, .int .i64 0] 30)
      have HB6 := Lib.hid hb6
      clear HEV HEM c6 hg6 hb6 hown6
      try rw [e5] at hown7
      go_wp2_with (at_builtin; refine append_V _ rfl (.tmp 114) (.tmp 116) rfl w.heap.size (.slice a7 (L.length + 1) cap7) (L.length + 1) (flat (L ++ [bd 2 1])) rfl hown7 ⟨w5.heap.size, 0, none⟩ 1 (dn 2) rfl ?c1 ?c2 ?c3 ?_)
      case c1 => first | exact fun j u h => h | exact Ow.new_row w5 (evC (dn 2)) _ _ rfl
      case c2 => omega
      case c3 => have := HB6.out.size; simp; omega
      intro v'' w6 hown8 hg8
      have hb8 : Below w.heap.size w w6 := (HB6.out.alloc HB6.out.size _).grown hg8 (by have := HB6.out.size; simp; omega) (fun k hk => (hown7.lt k hk).1)
      have hE : Evs w6 v'' ((L ++ [bd 2 1]) ++ [dn 2]) := evs_own (by rw [flat_snoc, List.length_append, e5]; first | exact hown8 | simpa using hown8)
      obtain ⟨a9, cap9, rfl, _, _, _⟩ := Ow.own_form hown8
      have HO := Lib.hid (ok_of hE HN2.out (by simp; omega) b k2 HP2.out)
      have HB8 := Lib.hid hb8
      clear hb8 hE hown8 hg8 hown7
      go_wp2_with fail
      refine HO.out.mono ?_
      rintro e w7 ⟨at2, rfl, _, hb7⟩
      have HB9 := Lib.hid (HB8.out.trans (hb7.mono HB8.out.size))
      clear hb7 HO HG HG0 HAT hnb
      have hn0 : (((adj first s : Nat) : Int) == 1) = (adj first s == 1) := by
        have : adj first s = 0 ∨ adj first s = 1 ∨ adj first s = 2 := by omega
        rcases this with h | h | h <;> rw [h] <;> rfl
      have hn2 : decide (((adj first s : Nat) : Int) = 1) = (adj first s == 1) := by
        have : adj first s = 0 ∨ adj first s = 1 ∨ adj first s = 2 := by omega
        rcases this with h | h | h <;> rw [h] <;> rfl
      generalize ((adj first s : Nat) : Int) = S at *
      generalize (adj first s == 1) = n1 at *
      cases early with
      | true =>
        obtain rfl : b = false := HBB.out
        clear HBB
        go_wp2_with (go_at_call 8; refine (HA.out _).mono ?_; rintro e w5 ⟨rfl, hb5⟩; have HB5 := Lib.hid hb5; clear hb5)
        go_ret
        exact ⟨rfl, HB9.out.trans (HB5.out.mono HB9.out.size)⟩
      | false =>
        obtain rfl : b = n1 := by simpa using HBB.out
        clear HBB
        cases b with
        | true =>
          go_wp2_with (go_at_call 8; refine (HA.out _).mono ?_; rintro e w5 ⟨rfl, hb5⟩; have HB5 := Lib.hid hb5; clear hb5)
          go_ret
          exact ⟨rfl, HB9.out.trans (HB5.out.mono HB9.out.size)⟩
        | false =>
          go_wp2_with (go_at_call 8; refine (HA.out _).mono ?_; rintro e w5 ⟨rfl, hb5⟩; have HB5 := Lib.hid hb5; clear hb5)
          go_ret
          exact ⟨rfl, HB9.out.trans (HB5.out.mono HB9.out.size)⟩
end Go.Proofs.YtehjlpipnaaifaaDoor.Tl
