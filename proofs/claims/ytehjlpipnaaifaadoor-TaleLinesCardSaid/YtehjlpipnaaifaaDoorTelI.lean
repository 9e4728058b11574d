/- Ok, of package tale, of any events that lie in memory. -/
import Derived.Test.YtehjlpipnaaifaaDoorTelH
namespace Go.Proofs.YtehjlpipnaaifaaDoor.Tl
open Go.ChangeShapes Go.WideShapes Go.ChangeAt Go.RowKit
set_option linter.unusedVariables false
set_option linter.unusedSimpArgs false
set_option maxRecDepth 100000
set_option maxHeartbeats 1000000

def flat (l : List Er) : List Value := l.flatMap evC
def evs (l : List Er) : List Ev := l.map Er.ev
theorem flat_len (l : List Er) : (flat l).length = l.length * 12 := by
  induction l with
  | nil => rfl
  | cons e r ih => unfold flat at *; rw [List.flatMap_cons, List.length_append, ih]; simp [evC]; omega
theorem flat_at : ∀ (l : List Er) (i : Nat) (e : Er) (f : Nat), l[i]? = some e → f < 12 → (flat l)[i * 12 + f]? = (evC e)[f]? := by
  intro l
  induction l with
  | nil => intro i e f h; cases h
  | cons d r ih =>
    intro i e f h hf
    show (evC d ++ flat r)[i * 12 + f]? = _
    cases i with
    | zero =>
      obtain rfl : d = e := by simpa using h
      rw [Nat.zero_mul, Nat.zero_add, List.getElem?_append_left (by simpa [evC] using hf)]
    | succ i =>
      rw [List.getElem?_append_right (by simp [evC]; omega)]
      have : (i + 1) * 12 + f - (evC d).length = i * 12 + f := by simp [evC]; omega
      rw [this]
      exact ih i e f (by simpa using h) hf
theorem flat_one (l : List Er) : ∀ u ∈ flat l, u.oneCell' = true := by
  intro u hu
  obtain ⟨e, _, hu⟩ := List.mem_flatMap.1 hu
  simp [evC] at hu
  rcases hu with rfl | rfl | rfl | rfl | rfl | rfl | rfl | rfl | rfl | rfl | rfl | rfl <;> rfl
/-- Events that lie in memory. -/
def Evs (w : World) (v : Value) (l : List Er) : Prop := ∃ base, Ow.Row w base 12 v (flat l)
theorem Evs.below {w w1 : World} {v : Value} {l : List Er} (h : Evs w v l) (hb : Below w.heap.size w w1) : Evs w1 v l := ⟨_, h.choose_spec.below hb⟩
theorem Evs.form {w : World} {v : Value} {l : List Er} (h : Evs w v l) : ∃ a cap, v = .slice a l.length cap ∧ l.length ≤ cap ∧ cap ≤ 9223372036854775807 ∧
    ∀ i e, l[i]? = some e → ∃ g off, a = some ⟨g, off, none⟩ ∧ g < w.heap.size ∧ ∀ f, f < 12 → w.cell? ⟨g, off + i * 12 + f, none⟩ = (evC e)[f]? := by
  obtain ⟨base, a, n, cap, h1, h2, h3, h4, h5⟩ := h
  rw [flat_len] at h2
  obtain rfl : l.length = n := by omega
  have hm := h4
  unfold maxLen at hm
  refine ⟨a, cap, h1, h3, hm, fun i e hi => ?_⟩
  have hil := (List.getElem?_eq_some_iff.1 hi).1
  rcases h5 with h5 | ⟨g, off, e1, e2, e3, e4⟩
  · omega
  · refine ⟨g, off, e1, e3, fun f hf => ?_⟩
    rw [← flat_at l i e f hi hf, Nat.add_assoc]
    exact e4 _ (by omega)

theorem ok_any (v : Value) (l : List Er) (w : World) (hrow : Evs w v l) (hn : ∀ e, e ∈ l → e.n < 18446744073709551616) (hlen : l.length ≤ 20000) :
    Calls Tryd.prog 7 #[v] w fun e w' => e = .returned (match okM [] 0 0 (evs l) with | none => .tuple #[.bool true, .int .i64 (-1)] | some i => .tuple #[.bool false, .int .i64 (i : Int)]) ∧ Below w.heap.size w w' := by
  obtain ⟨a, cap, rfl, hc1, hc2, hat⟩ := hrow.form
  have hR : ∃ R : Value, R = (match okM [] 0 0 (evs l) with | none => .tuple #[.bool true, .int .i64 (-1)] | some i => .tuple #[.bool false, .int .i64 (i : Int)]) := ⟨_, rfl⟩
  obtain ⟨R, hR⟩ := hR
  rw [← hR]
  have HR := Lib.hid hR
  have HROW := Lib.hid hrow
  have HAT := Lib.hid hat
  have HN := Lib.hid hn
  clear hR hrow hat hn
  obtain ⟨len, hll⟩ : ∃ len, len = l.length := ⟨_, rfl⟩
  rw [← hll] at hlen hc1 ⊢
  have HLL := Lib.hid hll
  clear hll
  have b0 : decide ((20000 : Int) < (len : Int)) = false := by simp; omega
  go_enter Tryd.func7, Tryd.ntmps7
  go_wp2
  go_loopw [12] (fun b wr => ∃ (k : Nat) (lv : Value) (its : List It) (last : Nat), b = .int .i64 (k : Int) ∧ k ≤ len ∧ okM [] 0 0 (evs l) = okM (xs its) last k (evs (l.drop k)) ∧ Tel wr w.heap.size w.heap.size lv its last ∧ Wf k (xs its) ∧ Below w.heap.size w wr) (fun b _ => match b with | .int _ i => len - i.toNat | _ => 0)
  case atStart =>
    refine ⟨0, .slice none 0 0, [], 0, rfl, Nat.zero_le _, rfl, ⟨Nat.le_refl _, ?_, World.ownsRow_nil _ _ _ _, fun i hi => (by cases hi), List.Pairwise.nil⟩, Wf.nil, (Below.refl _ _).alloc (Nat.le_refl _) _⟩
    exact heap_alloc_new w _
  case round =>
    obtain ⟨k, lv, its, last, rfl, hk, hok, hT, hwf, hB⟩ := hrel
    by_cases hend : k = len
    · have hR : R = .tuple #[.bool true, .int .i64 (-1)] := by
        rw [HR.out, hok, hend, HLL.out, List.drop_length]; rfl
      have b1 : decide ((k : Int) < (len : Int)) = false := by simp; omega
      have b2 : ¬ ((k : Int) < (len : Int)) := by omega
      have HB := Lib.hid hB
      clear hok hT hwf hk HR hend hB
      go_wp2
      go_ret2
      exact ⟨by first | rfl | (rw [hR]; rfl), HB.out⟩
    · have hlt : k < len := by omega
      have hkl : k < l.length := by rw [← HLL.out]; exact hlt
      have he : l[k]? = some l[k] := List.getElem?_eq_getElem hkl
      obtain ⟨g, off, rfl, hg, hcell⟩ := HAT.out k _ he
      have hdrop : evs (l.drop k) = l[k].ev :: evs (l.drop (k + 1)) := by
        unfold evs; rw [List.drop_eq_getElem_cons hkl]; rfl
      have hnk := HN.out _ (List.getElem_mem hkl)
      rw [hdrop] at hok
      generalize l[k] = e at *
      have c0 := hcell 0 (by omega)
      have c1 := hcell 1 (by omega)
      have c2 := hcell 2 (by omega)
      have c3 := hcell 3 (by omega)
      have c4 := hcell 4 (by omega)
      have c5 := hcell 5 (by omega)
      have c6 := hcell 6 (by omega)
      have c7 := hcell 7 (by omega)
      have c8 := hcell 8 (by omega)
      have c9 := hcell 9 (by omega)
      have c10 := hcell 10 (by omega)
      have c11 := hcell 11 (by omega)
      have kp : ∀ i, wr.cell? ⟨g, i, none⟩ = w.cell? ⟨g, i, none⟩ := fun i => hB.cell (p := ⟨g, i, none⟩) hg
      rw [← kp] at c0 c1 c2 c3 c4 c5 c6 c7 c8 c9 c10 c11
      rw [Nat.add_zero] at c0
      have htake := fun (W : World) (h1 : Below wr.heap.size wr W) => take_any (hT.below h1) (Nat.le_trans hB.size h1.size) hwf (by omega) e hnk
      have b1 : decide ((k : Int) < (len : Int)) = true := by simp; omega
      have b2 : (k : Int) < (len : Int) := by omega
      have HOK := Lib.hid hok
      have HT := Lib.hid hT
      have HWF := Lib.hid hwf
      have HB := Lib.hid hB
      have HTAKE := Lib.hid htake
      clear hok hT hwf hB htake hcell hdrop hend hkl kp he
      obtain ⟨ek, et, en, o1, o2, o3, o4, re, rv, pa, pl, pc, ro, rr⟩ := e
      simp only [evC, List.getElem?_cons_zero, List.getElem?_cons_succ] at c0 c1 c2 c3 c4 c5 c6 c7 c8 c9 c10 c11
      go_wp2_with fail
      have hbA : Below w.heap.size w (wr.alloc (.cells (evC ⟨ek, et, en, o1, o2, o3, o4, re, rv, pa, pl, pc, ro, rr⟩).toArray 30)) := HB.out.alloc HB.out.size _
      refine (HTAKE.out _ ((Below.refl _ _).alloc (Nat.le_refl _) _)).mono ?_
      intro e w1 hTook
      obtain ⟨rfl, hb1, hT1⟩ := hTook
      have hb2 := hbA.trans hb1
      have HB2 := Lib.hid hb2
      clear hbA hb1 hb2 HTAKE HB
      cases hTk : takeM (xs its) last (Er.ev ⟨ek, et, en, o1, o2, o3, o4, re, rv, pa, pl, pc, ro, rr⟩) with
      | none =>
        have hR : R = .tuple #[.bool false, .int .i64 (k : Int)] := by
          rw [HR.out, HOK.out]; simp only [okM, hTk]
        have HRR := Lib.hid hR
        clear hR hTk hT1
        simp only [Option.isSome]
        go_wp2_with fail
        go_ret2
        exact ⟨by rw [HRR.out]; rfl, HB2.out⟩
      | some r =>
        obtain ⟨lv', its', hx', hT'⟩ := hT1 _ hTk
        obtain ⟨l', last'⟩ := r
        simp only at hx' hT'
        have hwf' : Wf (k + 1) (xs its') := by rw [hx']; exact takeM_wf HWF.out hTk
        have hok' : okM [] 0 0 (evs l) = okM (xs its') last' (k + 1) (evs (l.drop (k + 1))) := by
          rw [HOK.out, hx']; simp only [okM, hTk]
        have hstep : ∃ (k2 : Nat) (lv : Value) (its : List It) (last : Nat), Value.int .i64 ((k : Int) + 1) = .int .i64 (k2 : Int) ∧ k2 ≤ len ∧ okM [] 0 0 (evs l) = okM (xs its) last k2 (evs (l.drop k2)) ∧ Tel w1 w.heap.size w.heap.size lv its last ∧ Wf k2 (xs its) ∧ Below w.heap.size w w1 :=
          ⟨k + 1, lv', its', last', by rw [Int.natCast_add]; rfl, hlt, hok', hT', hwf', HB2.out⟩
        have HS := Lib.hid hstep
        clear hT1 hTk hT' hx' hwf' hok' hstep
        simp only [Option.isSome]
        go_wp2_with fail
        refine ⟨HS.out, ?_⟩
        simp only
        omega
end Go.Proofs.YtehjlpipnaaifaaDoor.Tl
