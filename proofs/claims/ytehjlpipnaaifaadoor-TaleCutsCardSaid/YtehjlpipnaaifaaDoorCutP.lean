/- Tales that may be, cut: plain laws; and rows of events, cut. -/
import Derived.Test.YtehjlpipnaaifaaDoorDlC
import Derived.Test.YtehjlpipnaaifaaDoorBits
namespace Go.Proofs.YtehjlpipnaaifaaDoor.Tl
open Go.ChangeShapes Go.WideShapes Go.ChangeAt Go.RowKit
set_option linter.unusedVariables false
set_option linter.unusedSimpArgs false

theorem ok_take : ∀ (l : List Ev) (T : List Tx) (last i k : Nat), okM T last i l = none → okM T last i (l.take k) = none := by
  intro l
  induction l with
  | nil => intro T last i k _; simp [okM]
  | cons e r ih =>
    intro T last i k h
    cases k with
    | zero => rfl
    | succ k =>
      rw [List.take_succ_cons]
      unfold okM at h ⊢
      split at h
      · cases h
      · rename_i T' last' ht
        exact ih T' last' (i + 1) k h
theorem ok_some : ∀ (l : List Ev) (T : List Tx) (last i j : Nat), okM T last i l = some j → i ≤ j ∧ j < i + l.length ∧ okM T last i (l.take (j - i)) = none := by
  intro l
  induction l with
  | nil => intro T last i j h; cases h
  | cons e r ih =>
    intro T last i j h
    unfold okM at h
    split at h
    · cases h
      exact ⟨Nat.le_refl _, by simp, by rw [Nat.sub_self]; rfl⟩
    · rename_i T' last' ht
      obtain ⟨h1, h2, h3⟩ := ih T' last' (i + 1) j h
      refine ⟨by omega, by simp; omega, ?_⟩
      obtain ⟨d, hd⟩ : ∃ d, j - i = d + 1 := ⟨j - i - 1, by omega⟩
      rw [hd, List.take_succ_cons]
      unfold okM
      rw [ht]
      rw [show j - (i + 1) = d by omega] at h3
      exact h3
theorem ok_tail (e1 e2 : Ev) (r : List Ev) (h : okM [] 0 0 (e1 :: e2 :: r) = none) : okM [] 0 0 (e2 :: r) = some 0 := by
  have hn : ∀ t, getM [] t = none := fun t => by
    unfold getM
    split
    · rfl
    · rename_i h1
      simp only [List.length_nil] at h1
      omega
  unfold okM at h
  split at h
  · cases h
  · rename_i T' last' ht
    unfold okM at h
    split at h
    · cases h
    · rename_i T2 last2 ht2
      have hT : T'.length = 1 ∧ e1.kind = 1 := by
        rcases take_shape ht with ⟨h1, h2⟩ | ⟨_, _, _, h2, h3⟩
        · exact ⟨by simpa using h2, h1⟩
        · simp only [List.length_nil] at h3; omega
      have hno : takeM [] 0 e2 = none := by
        unfold takeM at ht2 ⊢
        by_cases hk : e2.kind = 1
        · rw [if_pos hk] at ht2 ⊢
          rw [if_neg (fun hc => ?_)]
          split at ht2
          · rename_i hc2
            rw [hT.1] at hc2
            have := hc.1
            simp only [List.length_nil] at this
            have := hc2.1
            omega
          · cases ht2
        · rw [if_neg hk, hn]
      unfold okM
      rw [hno]
theorem ok_kinds : ∀ (l : List Ev) (T : List Tx) (last i : Nat), okM T last i l = none → ∀ e, e ∈ l → 1 ≤ e.kind ∧ e.kind ≤ 6 := by
  intro l
  induction l with
  | nil => intro T last i _ e he; cases he
  | cons d r ih =>
    intro T last i h e he
    unfold okM at h
    split at h
    · cases h
    · rename_i T' last' ht
      rcases List.mem_cons.1 he with rfl | he
      · rcases take_shape ht with ⟨h1, _⟩ | ⟨_, h1, _⟩ <;> omega
      · exact ih T' last' (i + 1) h e he
theorem evs_take (l : List Er) (k : Nat) : evs (l.take k) = (evs l).take k := by unfold evs; rw [List.map_take]

theorem Evs.mk {w : World} {a : Option Addr} {cap : Nat} {l : List Er} (h1 : l.length ≤ cap) (h2 : cap ≤ 9223372036854775807)
    (h : ∀ i e, l[i]? = some e → ∃ g off, a = some ⟨g, off, none⟩ ∧ g < w.heap.size ∧ ∀ f, f < 12 → w.cell? ⟨g, off + i * 12 + f, none⟩ = (evC e)[f]?) : Evs w (.slice a l.length cap) l := by
  refine ⟨0, _, _, _, rfl, flat_len l, h1, by unfold maxLen; omega, ?_⟩
  rcases Nat.eq_zero_or_pos l.length with h0 | h0
  · exact .inl h0
  · obtain ⟨g, off, ha, hg, _⟩ := h 0 l[0] (List.getElem?_eq_getElem h0)
    refine .inr ⟨g, off, ha, Nat.zero_le _, hg, fun j hj => ?_⟩
    have hi : j / 12 < l.length := by omega
    obtain ⟨g', off', ha', _, hc⟩ := h (j / 12) l[j / 12] (List.getElem?_eq_getElem hi)
    rw [ha] at ha'
    simp only [Option.some.injEq, Addr.mk.injEq, and_true] at ha'
    obtain ⟨rfl, rfl⟩ := ha'
    have := hc (j % 12) (by omega)
    rw [← flat_at l (j / 12) _ (j % 12) (List.getElem?_eq_getElem hi) (by omega)] at this
    have e : j / 12 * 12 + j % 12 = j := by omega
    rw [Nat.add_assoc, e] at this
    exact this
theorem Evs.take {w : World} {a : Option Addr} {n cap : Nat} {l : List Er} (h : Evs w (.slice a n cap) l) (j : Nat) (hj : j ≤ n) : Evs w (.slice a j cap) (l.take j) := by
  obtain ⟨a', cap', he, h1, h2, hc⟩ := h.form
  cases he
  have hl : (l.take j).length = j := by rw [List.length_take]; omega
  have := Evs.mk (w := w) (a := a) (cap := cap) (l := l.take j) (by omega) h2 (fun i e hi => hc i e (by
    have hij : i < j := by have := (List.getElem?_eq_some_iff.1 hi).1; omega
    rw [List.getElem?_take_of_lt hij] at hi
    exact hi))
  rw [hl] at this
  exact this
theorem Evs.drop {w : World} {g off n cap : Nat} {l : List Er} (h : Evs w (.slice (some ⟨g, off, none⟩) n cap) l) (m : Nat) (hm : m ≤ n) : Evs w (.slice (if cap = m then some ⟨g, off, none⟩ else some ⟨g, off + m * 12, none⟩) (n - m) (cap - m)) (l.drop m) := by
  obtain ⟨a', cap', he, h1, h2, hc⟩ := h.form
  cases he
  have hl : (l.drop m).length = l.length - m := List.length_drop
  have := Evs.mk (w := w) (a := if cap = m then some ⟨g, off, none⟩ else some ⟨g, off + m * 12, none⟩) (cap := cap - m) (l := l.drop m) (by omega) (by omega) (fun i e hi => by
    have hil := (List.getElem?_eq_some_iff.1 hi).1
    rw [List.getElem?_drop] at hi
    obtain ⟨g', off', ha, hg, hf⟩ := hc (m + i) e hi
    simp only [Option.some.injEq, Addr.mk.injEq, and_true] at ha
    obtain ⟨rfl, rfl⟩ := ha
    rw [if_neg (by omega)]
    refine ⟨g, off + m * 12, rfl, hg, fun f hff => ?_⟩
    rw [← hf f hff]
    congr 2
    omega)
  rw [hl] at this
  exact this
theorem ok_ex {v : Value} {l : List Er} {w : World} (hrow : Evs w v l) (hn : ∀ e, e ∈ l → e.n < 18446744073709551616) (hlen : l.length ≤ 20000) :
    Calls Tryd.prog 7 #[v] w fun e w' => ∃ (g : Bool) (at' : Int), e = .returned (.tuple #[.bool g, .int .i64 at']) ∧ (g = true → okM [] 0 0 (evs l) = none) ∧ (g = false → ∃ j : Nat, at' = (j : Int) ∧ okM [] 0 0 (evs l) = some j) ∧ Below w.heap.size w w' := by
  refine (ok_any v l w hrow hn hlen).mono ?_
  rintro e w' ⟨he, hb⟩
  cases h : okM [] 0 0 (evs l) with
  | none => rw [h] at he; exact ⟨true, -1, he, fun _ => rfl, fun h => (by cases h), hb⟩
  | some j => rw [h] at he; exact ⟨false, (j : Int), he, fun h => (by cases h), fun _ => ⟨j, rfl, rfl⟩, hb⟩
theorem pick_k (Y : Int) (m : Nat) : ∃ κ : Nat, (bits .and .i64 Y 255).tmod ((m : Int) + 1) = (κ : Int) ∧ κ ≤ m := by
  rw [Bt.i64_and255]
  have h0 : 0 ≤ Y % 256 := by omega
  rw [Int.tmod_eq_emod_of_nonneg h0]
  have h1 := Int.emod_nonneg (Y % 256) (b := (m : Int) + 1) (by omega)
  have h2 := Int.emod_lt_of_pos (Y % 256) (b := (m : Int) + 1) (by omega)
  exact ⟨((Y % 256) % ((m : Int) + 1)).toNat, by omega, by omega⟩
end Go.Proofs.YtehjlpipnaaifaaDoor.Tl
