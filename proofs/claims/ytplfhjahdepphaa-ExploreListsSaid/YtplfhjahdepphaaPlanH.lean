/- Contract of plan.low: whether numbers fit into a byte. -/
import Derived.Test.YtplfhjahdepphaaPlanG
namespace Go.Proofs.Ytplfhjahdepphaa.Plan
open Go.ChangeShapes Go.WideShapes Go.ChangeAt Go.RowKit
set_option linter.unusedVariables false
set_option linter.unusedSimpArgs false
set_option maxRecDepth 100000

def inB (n : Int) : Bool := decide (0 ≤ n ∧ n ≤ 255)

theorem low1_in (n : Int) (h : inB n = true) (w : World) : Calls Try.prog 71 #[.int .i64 n] w fun e w' => e = .returned (.bool false) ∧ w = w' := by
  obtain ⟨h1, h2⟩ := of_decide_eq_true h
  have h3 : decide (n < 0) = false := by simpa using h1
  have h4 : decide (255 < n) = false := by simpa using h2
  clear h h1 h2
  go_enter Try.func71, Try.ntmps71
  go_wp2
  go_ret
  exact ⟨rfl, rfl⟩
theorem low1_out (n : Int) (h : inB n = false) (w : World) : Calls Try.prog 71 #[.int .i64 n] w fun e w' => e = .returned (.bool true) ∧ w = w' := by
  have h1 := of_decide_eq_false h
  clear h
  by_cases h2 : n < 0
  · clear h1
    go_enter Try.func71, Try.ntmps71
    go_wp2
    go_ret
    exact ⟨rfl, rfl⟩
  · have h3 : 255 < n := by omega
    clear h1
    go_enter Try.func71, Try.ntmps71
    go_wp2
    go_ret
    exact ⟨rfl, rfl⟩

/-- What IndexFunc answers. -/
def IdxPost (zs : List Int) (w : World) (e : Ending) (w' : World) : Prop := ∃ r : Int, e = .returned (.int .i64 r) ∧ decide (0 ≤ r) = !(zs.all inB) ∧ w = w'

theorem index_any (g off cap : Nat) (zs : List Int) (hm : zs.length ≤ 1000000) (w : World) (hc : ∀ i, i < zs.length → w.cell? ⟨g, off + i, none⟩ = some (.int .i64 (zs.getD i 0))) :
    Calls Try.prog 72 #[.slice (some ⟨g, off, none⟩) zs.length cap, .func (.func 71) #[] #[]] w (IdxPost zs w) := by
  obtain ⟨n, hn⟩ : ∃ n, zs.length = n := ⟨_, rfl⟩
  rw [hn] at hc hm ⊢
  have HN := Lib.hid hn
  have HC := Lib.hid hc
  clear hn hc
  go_enter Try.func72, Try.ntmps72
  go_wp2
  go_loop [8] (fun i => ∃ k : Nat, k ≤ n ∧ i = .int .i64 k ∧ (zs.take k).all inB = true) (fun i => n - (intOf i).toNat)
  case atStart => exact ⟨0, by omega, rfl, by simp⟩
  case round =>
    obtain ⟨k, hk, rfl, hall⟩ := hrel
    have HA := Lib.hid hall
    clear hall
    by_cases hlt : k < n
    · have c := HC.out k hlt
      have i1 : (0 : Int) ≤ (k : Int) := by omega
      have i2 : (k : Int) < (n : Int) := by omega
      have hlen := HN.out
      have hget : zs.getD k 0 = zs[k]'(by omega) := by simp [List.getD_eq_getElem?_getD, List.getElem?_eq_getElem (show k < zs.length by omega)]
      have htake : zs.take (k + 1) = zs.take k ++ [zs.getD k 0] := by rw [hget, List.take_succ_eq_append_getElem (by omega)]
      have hmem : zs.getD k 0 ∈ zs := by rw [hget]; exact List.getElem_mem _
      generalize zs.getD k 0 = z at *
      by_cases hz : inB z = true
      · have hnext : (zs.take (k + 1)).all inB = true := by rw [htake, List.all_append, HA.out]; simp [hz]
        have HX := Lib.hid hnext
        clear hlen hget htake hmem hnext
        go_wp2_with (go_at_call 71; refine (low1_in _ hz _).mono ?_; rintro e w' ⟨rfl, rfl⟩)
        go_round
        case rel => exact ⟨k + 1, by omega, by go_num, HX.out⟩
        case measure => simp [intOf]; omega
      · have hz' : inB z = false := by simpa using hz
        have hno : zs.all inB = false := by
          rw [List.all_eq_false]; exact ⟨z, hmem, by simp [hz']⟩
        have HX := Lib.hid hno
        clear hlen hget htake hmem hno hz
        go_wp2_with (go_at_call 71; refine (low1_out _ hz' _).mono ?_; rintro e w' ⟨rfl, rfl⟩)
        go_ret
        exact ⟨k, rfl, by rw [HX.out]; simp, rfl⟩
    · obtain rfl : k = n := by omega
      have hyes : zs.all inB = true := by have := HA.out; rwa [List.take_of_length_le (by have := HN.out; omega)] at this
      have HX := Lib.hid hyes
      clear hyes hlt
      go_wp2
      go_ret
      exact ⟨-1, rfl, by rw [HX.out]; rfl, rfl⟩

theorem low_any (g off cap : Nat) (zs : List Int) (hm : zs.length ≤ 1000000) (w : World) (hc : ∀ i, i < zs.length → w.cell? ⟨g, off + i, none⟩ = some (.int .i64 (zs.getD i 0))) :
    Calls Try.prog 68 #[.slice (some ⟨g, off, none⟩) zs.length cap] w fun e w' => e = .returned (.bool (zs.all inB)) ∧ w = w' := by
  have HI := Lib.hid (index_any g off cap zs hm w hc)
  generalize zs.length = n at *
  have H : ∀ b, zs.all inB = b → Calls Try.prog 68 #[.slice (some ⟨g, off, none⟩) n cap] w fun e w' => e = .returned (.bool b) ∧ w = w' := by
    intro b hb
    have HB := Lib.hid hb
    clear hb hc
    go_enter Try.func68, Try.ntmps68
    go_wp2_with (first | (go_at_call 72; refine HI.out.mono ?_; rintro e w' ⟨r, rfl, hr, rfl⟩; rw [HB.out] at hr) | go_in)
    go_ret
    exact ⟨rfl, rfl⟩
  exact H _ rfl
end Go.Proofs.Ytplfhjahdepphaa.Plan
