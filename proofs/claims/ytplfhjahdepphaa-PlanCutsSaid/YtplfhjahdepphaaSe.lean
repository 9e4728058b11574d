/- What a law's walk is told of entries that came in: by value, or in a slice. -/
import Derived.Test.YtplfhjahdepphaaPlanQ
import Derived.ChangeOld
import Derived.OpenShut
import Derived.Deep.Slices
namespace Go.Proofs.Ytplfhjahdepphaa.Plan
open Go.ChangeShapes Go.WideShapes Go.ChangeAt Go.RowKit Go.Deep
set_option linter.unusedVariables false
set_option linter.unusedSimpArgs false
section
variable {H : Type} {enc : TypeId × Value → H} {w : World} {base : Nat} {spare : Nat → Bool} {held : Bool}

theorem trod_i64 {fuel : Nat} {c : Value} {x : DataW H × List MemPlace} (h : DataW.trod enc Try.prog w base spare held fuel 3 [c] = some x) : ∃ a, c = .int .i64 a ∧ -9223372036854775808 ≤ a ∧ a < 9223372036854775808 := by
  obtain ⟨a, e, _, hw⟩ := DataW.trod_int Try.underlying3 h
  simp at e
  subst e
  have := bounds_i64 hw
  exact ⟨a, rfl, by omega, by omega⟩

theorem trod_op {fuel : Nat} {c0 c1 c2 c3 : Value} {x : DataW H × List MemPlace} (h : DataW.trod enc Try.prog w base spare held fuel 45 [c0, c1, c2, c3] = some x) :
    ∃ a0 a1 a2 a3, c0 = .int .i64 a0 ∧ c1 = .int .i64 a1 ∧ c2 = .int .i64 a2 ∧ c3 = .int .i64 a3 ∧ ∀ z ∈ [a0, a1, a2, a3], -9223372036854775808 ≤ z ∧ z < 9223372036854775808 := by
  have hi : Try.prog.cellsOf 3 = 1 := by kernel_rfl
  obtain ⟨xs, n, _, _, _, hl, hf⟩ := DataW.trod_struct Try.underlying45 h
  obtain ⟨y, hy⟩ : ∃ y, xs = y := ⟨_, rfl⟩
  match xs, hl with
  | [y0, y1, y2, y3], _ =>
    have f0 : DataW.trod enc Try.prog w base spare held n 3 (([c0, c1, c2, c3].drop 0).take (Try.prog.cellsOf 3)) = some y0 := hf 0 _ rfl
    rw [hi] at f0
    have f1 : DataW.trod enc Try.prog w base spare held n 3 (([c0, c1, c2, c3].drop 1).take (Try.prog.cellsOf 3)) = some y1 := hf 1 _ rfl
    rw [hi] at f1
    have f2 : DataW.trod enc Try.prog w base spare held n 3 (([c0, c1, c2, c3].drop 2).take (Try.prog.cellsOf 3)) = some y2 := hf 2 _ rfl
    rw [hi] at f2
    have f3 : DataW.trod enc Try.prog w base spare held n 3 (([c0, c1, c2, c3].drop 3).take (Try.prog.cellsOf 3)) = some y3 := hf 3 _ rfl
    rw [hi] at f3
    obtain ⟨a0, rfl, w0⟩ := trod_i64 f0
    obtain ⟨a1, rfl, w1⟩ := trod_i64 f1
    obtain ⟨a2, rfl, w2⟩ := trod_i64 f2
    obtain ⟨a3, rfl, w3⟩ := trod_i64 f3
    refine ⟨a0, a1, a2, a3, rfl, rfl, rfl, rfl, ?_⟩
    intro z hz
    simp at hz
    rcases hz with rfl | rfl | rfl | rfl <;> assumption

theorem trod_entry {fuel : Nat} {cs : List Value} {x : DataW H × List MemPlace} (h : DataW.trod enc Try.prog w base spare held fuel 47 cs = some x) : ∃ e : En, cs = cellsE e ∧ I64 e := by
  have hi : Try.prog.cellsOf 3 = 1 := by kernel_rfl
  have ho : Try.prog.cellsOf 45 = 4 := by kernel_rfl
  have he : Try.prog.cellsOf 47 = 7 := by kernel_rfl
  obtain ⟨xs, n, _, _, hc, hl, hf⟩ := DataW.trod_struct Try.underlying47 h
  rw [he] at hc
  match cs, hc with
  | [c0, c1, c2, c3, c4, c5, c6], _ =>
    match xs, hl with
    | [y0, y1, y2, y3], _ =>
      have f0 : DataW.trod enc Try.prog w base spare held n 3 (([c0, c1, c2, c3, c4, c5, c6].drop 0).take (Try.prog.cellsOf 3)) = some y0 := hf 0 _ rfl
      rw [hi] at f0
      have f1 : DataW.trod enc Try.prog w base spare held n 3 (([c0, c1, c2, c3, c4, c5, c6].drop 1).take (Try.prog.cellsOf 3)) = some y1 := hf 1 _ rfl
      rw [hi] at f1
      have f2 : DataW.trod enc Try.prog w base spare held n 3 (([c0, c1, c2, c3, c4, c5, c6].drop 2).take (Try.prog.cellsOf 3)) = some y2 := hf 2 _ rfl
      rw [hi] at f2
      have f3 : DataW.trod enc Try.prog w base spare held n 45 (([c0, c1, c2, c3, c4, c5, c6].drop 3).take (Try.prog.cellsOf 45)) = some y3 := hf 3 _ rfl
      rw [ho] at f3
      obtain ⟨a0, rfl, w0⟩ := trod_i64 f0
      obtain ⟨a1, rfl, w1⟩ := trod_i64 f1
      obtain ⟨a2, rfl, w2⟩ := trod_i64 f2
      obtain ⟨a3, a4, a5, a6, rfl, rfl, rfl, rfl, w3⟩ := trod_op f3
      refine ⟨⟨a0, a1, a2, a3, a4, a5, a6⟩, rfl, ?_⟩
      intro z hz
      simp at hz
      rcases hz with rfl | rfl | rfl | rfl | rfl | rfl | rfl
      · exact w0
      · exact w1
      · exact w2
      · exact w3 _ (by simp)
      · exact w3 _ (by simp)
      · exact w3 _ (by simp)
      · exact w3 _ (by simp)

/-- An entry by value. -/
theorem open_entry {r : Reach} {b0 : Nat} {v : Value} {d : DataW H} {p : List MemPlace} (hv : Value.okWide Try.prog w r b0 47 v) (h : DataW.Trod enc Try.prog w base spare held 47 v d p) : ∃ e : En, v = enV e ∧ I64 e := by
  obtain ⟨cs, rfl, _⟩ := okWide_struct Try.underlying47 hv
  obtain ⟨fuel, hf⟩ := h
  obtain ⟨e, he, hi⟩ := trod_entry hf
  refine ⟨e, ?_, hi⟩
  have : cs.toList = cellsE e := he
  show Value.agg cs = _
  rw [show cs = (cellsE e).toArray from by rw [← this]]
  rfl

theorem flatE_get (f : Nat → En) (n : Nat) : ∀ i, i < n → ∀ j, j < 7 → (flatE ((List.range n).map f))[i * 7 + j]? = (cellsE (f i))[j]? := by
  intro i hi j hj
  have key : ∀ (l : List En) (i : Nat) (e : En), l[i]? = some e → (flatE l)[i * 7 + j]? = (cellsE e)[j]? := by
    intro l
    induction l with
    | nil => intro i e h; simp at h
    | cons e0 l ih =>
      intro i e h
      show (cellsE e0 ++ flatE l)[i * 7 + j]? = _
      cases i with
      | zero =>
        simp at h
        subst h
        rw [List.getElem?_append_left (by show 0 * 7 + j < 7; omega)]
        simp
      | succ i =>
        rw [List.getElem?_append_right (by show 7 ≤ _; omega)]
        rw [show (i + 1) * 7 + j - (cellsE e0).length = i * 7 + j from by show _ - 7 = _; omega]
        exact ih i e (by simpa using h)
  exact key _ i (f i) (by simp [hi])

/-- A slice of entries. -/
theorem open_entries {r : Reach} {b0 : Nat} {v : Value} {d : DataW H} {p : List MemPlace} (hv : Value.okWide Try.prog w r b0 53 v) (h : DataW.Trod enc Try.prog w base spare held 53 v d p) :
    ∃ es : List En, Ow.Row w 0 7 v (flatE es) ∧ ∀ e ∈ es, I64 e := by
  have hc7 : Try.prog.cellsOf 47 = 7 := by kernel_rfl
  obtain ⟨a, len, cap, rfl⟩ := okWide_slice Try.underlying53 hv
  obtain ⟨fuel, hf⟩ := h
  rcases open_slice Try.underlying53 hf with ⟨h0, _⟩ | ⟨ad, len', cap', m, n, D, Pl, hcs, hb, hl, hm, hmm, _, hi⟩
  · simp [Value.cells] at h0
    obtain ⟨rfl, rfl, rfl⟩ := h0
    exact ⟨[], ⟨none, 0, 0, rfl, rfl, by omega, by unfold maxLen; omega, .inl rfl⟩, by simp⟩
  · simp [Value.cells] at hcs
    obtain ⟨rfl, rfl, rfl⟩ := hcs
    have hle : len ≤ m := by rw [hmm]; split <;> omega
    have hex : ∀ i, ∃ e : En, i < len → (∀ j, j < 7 → w.cell? (ad.add (i * 7 + j)) = (cellsE e)[j]?) ∧ I64 e := by
      intro i
      by_cases hil : i < len
      · obtain ⟨cs', hcells, htr⟩ := hi i (by omega)
        rw [hc7] at hcells
        obtain ⟨e, rfl, he⟩ := trod_entry htr
        obtain ⟨_, _, hat⟩ := World.cells?_some hcells
        refine ⟨e, fun _ => ⟨fun j hj => ?_, he⟩⟩
        rw [← add_add]
        exact hat j hj
      · exact ⟨badE, fun h => absurd h hil⟩
    obtain ⟨f, hf'⟩ := Classical.axiomOfChoice hex
    refine ⟨(List.range len).map f, ⟨some ad, len, cap, rfl, by rw [flatE_length]; simp, hl, hm, ?_⟩, ?_⟩
    · by_cases h0 : len = 0
      · exact .inl h0
      · right
        obtain ⟨b, off, spot⟩ := ad
        have hc0 := (hf' 0 (by omega)).1 0 (by omega)
        have hcell0 : w.cell? ((⟨b, off, spot⟩ : Addr).add (0 * 7 + 0)) = some (.int .i64 (f 0).k) := hc0
        have hspot : spot = none := by simpa [Addr.add] using World.cell?_spot hcell0
        subst hspot
        have hadd : ∀ i, (⟨b, off, none⟩ : Addr).add i = ⟨b, off + i, none⟩ := by
          intro i; unfold Addr.add; split
          · rename_i h; subst h; rfl
          · rfl
        refine ⟨b, off, rfl, by omega, World.block_lt_of_cell? w ⟨b, off, none⟩ (by simpa [Addr.add] using hcell0), fun j hj => ?_⟩
        have hd : j = (j / 7) * 7 + j % 7 := by omega
        rw [← hadd j, hd, flatE_get f len (j / 7) (by omega) (j % 7) (by omega)]
        exact (hf' (j / 7) (by omega)).1 (j % 7) (by omega)
    · intro e he
      rw [List.mem_map] at he
      obtain ⟨i, hi', rfl⟩ := he
      exact (hf' i (by simpa using hi')).2
end
end Go.Proofs.Ytplfhjahdepphaa.Plan
