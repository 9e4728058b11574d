/- The teller's done: the library's functions. -/
import Derived.Test.YtehjlpipnaaifaaDoorTelC
namespace Go.Proofs.YtehjlpipnaaifaaDoor.Tl
open Go.ChangeShapes Go.WideShapes Go.ChangeAt Go.RowKit
set_option linter.unusedVariables false
set_option linter.unusedSimpArgs false
set_option maxRecDepth 100000
set_option maxHeartbeats 1000000

theorem nums_form {w : World} {base : Nat} {v : Value} {l : List Nat} (h : w.ownsRow base 3 1 v l.length (nums l)) :
    ∃ a cap, v = .slice a l.length cap ∧ l.length ≤ cap ∧ cap ≤ 9223372036854775807 ∧ ∀ (k : Nat) (b : Nat), l[k]? = some b → ∃ g, a = some ⟨g, 0, none⟩ ∧ w.cell? ⟨g, k, none⟩ = some (.int .i64 (b : Int)) := by
  rcases h.2 with ⟨h0, hn⟩ | ⟨g, cap, cur, h1, h2, h3, h4, h5, h6, h7⟩
  · refine ⟨none, 0, by rw [hn]; exact h0, by omega, by omega, fun i it hi => ?_⟩
    have := (List.getElem?_eq_some_iff.1 hi).1
    omega
  · have hm := h5
    unfold maxLen at hm
    refine ⟨some ⟨g, 0, none⟩, cap, h1, h4, hm, fun i it hi => ⟨g, rfl, ?_⟩⟩
    subst h1
    have hil := (List.getElem?_eq_some_iff.1 hi).1
    rw [h.cellAt i (by omega)]
    unfold nums
    rw [List.getElem?_map, hi]
    rfl
theorem all_split (l : List Nat) (p : Nat → Bool) (k : Nat) (b : Nat) (hk : l[k]? = some b) (hp : p b = false) : l.all p = false := by
  rw [List.all_eq_false]
  exact ⟨b, List.mem_of_getElem? hk, by simp [hp]⟩

theorem index_any {w : World} {base gt : Nat} {lv : Value} {its : List It} {last : Nat} (h : Tel w base gt lv its last) (hm : its.length ≤ 20000) (B : Nat) (hB : w.cell? ⟨B, 0, none⟩ = some (.pointer (some ⟨gt, 0, none⟩)))
    (v : Value) (l : List Nat) (hl : w.ownsRow base 3 1 v l.length (nums l)) (hr : ∀ b ∈ l, 1 ≤ b ∧ b ≤ its.length) (hlm : l.length ≤ 20000) :
    Calls Tryd.prog 36 #[v, .func (.func 31) #[] #[.pointer (some ⟨B, 0, none⟩)]] w
      fun e w' => ∃ r : Int, e = .returned (.int .i64 r) ∧ decide (0 ≤ r) = (!l.all (good (xs its))) ∧ ∃ q, w' = w.drewN q := by
  obtain ⟨a, cap, rfl, hc1, hc2, hat⟩ := nums_form hl
  have hcl : ∀ q (b : Nat), b ∈ l → Calls Tryd.prog 31 #[.int .i64 (b : Int), .pointer (some ⟨B, 0, none⟩)] (w.drewN q) fun e w' => e = .returned (.bool (!good (xs its) b)) ∧ w.drewN q = w' :=
    fun q b hb => clo (h.drewN q) hm B hB b (hr b hb).1 (hr b hb).2
  generalize good (xs its) = p at *
  clear h hl hr
  generalize hn : l.length = n at *
  have HN := Lib.hid hn
  have HCL := Lib.hid hcl
  have HAT := Lib.hid hat
  clear hn hcl hat hm
  go_enter Tryd.func36, Tryd.ntmps36
  go_wp2
  go_loopw [8] (fun i wr => ∃ k q : Nat, k ≤ n ∧ i = .int .i64 (k : Int) ∧ wr = w.drewN q ∧ Hid (∀ j b, j < k → l[j]? = some b → p b = true)) (fun i _ => n - (intOf i).toNat)
  case atStart => exact ⟨0, 0, by omega, rfl, rfl, Lib.hid fun j b hj => by omega⟩
  case round =>
    obtain ⟨k, q, hk, rfl, rfl, HP⟩ := hrel
    by_cases hlt : k < n
    · have hkb : l[k]? = some (l[k]'(by have := HN.out; omega)) := List.getElem?_eq_getElem _
      generalize l[k]'(by have := HN.out; omega) = b at hkb
      obtain ⟨g, rfl, hcell⟩ := HAT.out k b hkb
      have hcall := HCL.out q b (List.mem_of_getElem? hkb)
      have i1 : (0 : Int) ≤ (k : Int) := by omega
      have i2 : (k : Int) < (n : Int) := by omega
      have HKB := Lib.hid hkb
      clear hkb
      cases hp : p b with
      | true =>
        rw [hp] at hcall
        go_wp2_with (go_at_call 31; refine hcall.mono ?_; rintro e w' ⟨rfl, rfl⟩)
        refine ⟨⟨k + 1, q, by omega, by go_num, rfl, Lib.hid fun j c hj hjc => ?_⟩, by simp [intOf]; omega⟩
        by_cases e : j = k
        · subst e
          rw [HKB.out] at hjc
          injection hjc with hjc
          subst hjc
          exact hp
        · exact HP.out j c (by omega) hjc
      | false =>
        rw [hp] at hcall
        go_wp2_with (go_at_call 31; refine hcall.mono ?_; rintro e w' ⟨rfl, rfl⟩)
        go_ret
        refine ⟨_, rfl, ?_, q, rfl⟩
        rw [all_split l p k b HKB.out hp]
        simp
    · obtain rfl : k = n := by omega
      clear hlt
      go_wp2
      go_ret
      refine ⟨_, rfl, ?_, q, rfl⟩
      have : l.all p = true := by
        rw [List.all_eq_true]
        intro b hb
        obtain ⟨j, hj, rfl⟩ := List.getElem_of_mem hb
        exact HP.out j _ (by have := HN.out; omega) (List.getElem?_eq_getElem hj)
      rw [this]
      rfl
theorem contains_any {w : World} {base gt : Nat} {lv : Value} {its : List It} {last : Nat} (h : Tel w base gt lv its last) (hm : its.length ≤ 20000) (B : Nat) (hB : w.cell? ⟨B, 0, none⟩ = some (.pointer (some ⟨gt, 0, none⟩)))
    (v : Value) (l : List Nat) (hl : w.ownsRow base 3 1 v l.length (nums l)) (hr : ∀ b ∈ l, 1 ≤ b ∧ b ≤ its.length) (hlm : l.length ≤ 20000) :
    Calls Tryd.prog 30 #[v, .func (.func 31) #[] #[.pointer (some ⟨B, 0, none⟩)]] w
      fun e w' => e = .returned (.bool (!l.all (good (xs its)))) ∧ ∃ q, w' = w.drewN q := by
  have hc := index_any h hm B hB v l hl hr hlm
  generalize (!l.all (good (xs its))) = r at *
  clear h hm hB hl hr hlm
  go_enter Tryd.func30, Tryd.ntmps30
  go_wp2_with (go_at_call 36; refine hc.mono ?_; rintro e w' ⟨r0, rfl, hr0, q, rfl⟩)
  go_ret
  exact ⟨by simp [hr0], q, rfl⟩
end Go.Proofs.YtehjlpipnaaifaaDoor.Tl
