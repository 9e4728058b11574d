/- A tale's text has a line for each event: plain. -/
import Derived.Test.YtehjlpipnaaifaaDoorTxtT
namespace Go.Proofs.YtehjlpipnaaifaaDoor.Tl
open Go.ChangeShapes Go.WideShapes Go.ChangeAt Go.RowKit
set_option linter.unusedVariables false
set_option linter.unusedSimpArgs false

theorem dig_ne : ∀ u : Nat, u < 10 → UInt8.ofNat (48 + u) ≠ 10 := by decide
theorem dd_no (x : Int) (h0 : 0 ≤ x) (h1 : x < 100) : (10 : UInt8) ∉ dd x := by
  unfold dd
  have h : x.toNat < 100 := by omega
  generalize x.toNat = n at h
  rw [Lib.decDigits]
  split
  · intro hm
    have := List.mem_singleton.1 hm
    exact dig_ne n (by omega) this.symm
  · intro hm
    rcases List.mem_append.1 hm with hm | hm
    · rw [Lib.decDigits] at hm
      split at hm
      · have := List.mem_singleton.1 hm
        exact dig_ne (n / 10) (by omega) this.symm
      · omega
    · have := List.mem_singleton.1 hm
      exact dig_ne (n % 10) (by omega) this.symm
theorem kw_no (k : Nat) : (10 : UInt8) ∉ kw k := by
  unfold kw
  rcases Nat.lt_or_ge k 7 with h | h
  · have : k = 0 ∨ k = 1 ∨ k = 2 ∨ k = 3 ∨ k = 4 ∨ k = 5 ∨ k = 6 := by omega
    rcases this with rfl | rfl | rfl | rfl | rfl | rfl | rfl <;> decide
  · rw [List.getD_eq_getElem?_getD, List.getElem?_eq_none (by simpa [kwL] using h)]; simp
theorem join_no : ∀ (ss : List (List UInt8)), (∀ s, s ∈ ss → (10 : UInt8) ∉ s) → (10 : UInt8) ∉ Lib.join ss [32] := by
  intro ss
  cases ss with
  | nil => intro _; simp [Lib.join_nil]
  | cons x r =>
    intro h
    rw [Lib.join_cons]
    intro hm
    rcases List.mem_append.1 hm with hm | hm
    · exact h x (by simp) hm
    · unfold Lib.joinTail at hm
      obtain ⟨y, hy, hm⟩ := List.mem_flatten.1 hm
      obtain ⟨z, hz, rfl⟩ := List.mem_map.1 hy
      rcases List.mem_append.1 hm with hm | hm
      · have := List.mem_singleton.1 hm
        exact absurd this (by decide)
      · exact h z (by simp [hz]) hm
theorem words_no {w : World} {e : Er} {ps : List (Int × Int)} (hs : Sm e) (hp : Prs w e ps) : ∀ s, s ∈ wordsOf e ps → (10 : UInt8) ∉ s := by
  have hn := dd_no (e.n : Int) (by omega) (by have := hs.n; omega)
  have ht := dd_no _ hs.t.1 hs.t.2
  have h1 := dd_no _ hs.o1.1 hs.o1.2
  have h2 := dd_no _ hs.o2.1 hs.o2.2
  have h3 := dd_no _ hs.o3.1 hs.o3.2
  have h4 := dd_no _ hs.o4.1 hs.o4.2
  have h5 := dd_no _ hs.re.1 hs.re.2
  have h6 := dd_no _ hs.rv.1 hs.rv.2
  have h7 := dd_no _ hs.rr.1 hs.rr.2
  have hk := kw_no e.k.toNat
  obtain ⟨q1, q2, q3, q4, q5, _⟩ := hp
  have hpp : ∀ s, s ∈ ps.map (fun (p : Int × Int) => dd p.1 ++ [61] ++ dd p.2) → (10 : UInt8) ∉ s := by
    intro s hs
    obtain ⟨p, hpm, rfl⟩ := List.mem_map.1 hs
    have a := dd_no _ (q5 p hpm).1.1 (q5 p hpm).1.2
    have b := dd_no _ (q5 p hpm).2.1 (q5 p hpm).2.2
    intro hm
    rcases List.mem_append.1 hm with hm | hm
    · rcases List.mem_append.1 hm with hm | hm
      · exact a hm
      · have := List.mem_singleton.1 hm
        exact absurd this (by decide)
    · exact b hm
  unfold wordsOf
  intro s hsm
  rcases List.mem_append.1 hsm with hsm | hsm
  · simp at hsm
    rcases hsm with rfl | rfl <;> assumption
  · split at hsm
    · simp at hsm
      rcases hsm with rfl | rfl <;> assumption
    · split at hsm
      · rcases List.mem_append.1 hsm with hsm | hsm
        · simp at hsm
          rcases hsm with rfl | rfl | rfl | rfl | rfl | rfl <;> assumption
        · exact hpp s hsm
      · split at hsm
        · simp at hsm; subst hsm; assumption
        · split at hsm
          · simp at hsm; subst hsm; assumption
          · split at hsm
            · simp at hsm; subst hsm; assumption
            · cases hsm
theorem line_count {w : World} {p : Er × List (Int × Int)} (h : TelV w p) : (lineOf p.1 p.2).count 10 = 1 := by
  unfold lineOf
  rw [List.count_append, List.count_eq_zero_of_not_mem (join_no _ (words_no h.1 h.2.2))]
  rfl
theorem text_count {w : World} : ∀ (l : List (Er × List (Int × Int))), (∀ p, p ∈ l → TelV w p) → (textOf l).count 10 = l.length := by
  intro l
  induction l with
  | nil => intro _; rfl
  | cons p r ih =>
    intro h
    have h1 := line_count (h p (by simp))
    have h2 := ih (fun q hq => h q (by simp [hq]))
    unfold textOf at *
    rw [List.flatMap_cons, List.count_append, h1, h2, List.length_cons]
    omega
theorem count_step (l : List UInt8) (k : Nat) (hk : k < l.length) : (l.take (k + 1)).count 10 = (l.take k).count 10 + (if l[k] = 10 then 1 else 0) := by
  rw [List.take_add_one, List.getElem?_eq_getElem hk, Option.toList_some, List.count_append]
  congr 1
  by_cases h : l[k] = 10 <;> simp [h]
end Go.Proofs.YtehjlpipnaaifaaDoor.Tl
