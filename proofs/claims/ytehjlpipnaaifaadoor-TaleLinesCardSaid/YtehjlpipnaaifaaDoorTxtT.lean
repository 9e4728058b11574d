/- A tale's text. -/
import Derived.Test.YtehjlpipnaaifaaDoorTxtD
namespace Go.Proofs.YtehjlpipnaaifaaDoor.Tl
open Go.ChangeShapes Go.WideShapes Go.ChangeAt Go.RowKit
set_option linter.unusedVariables false
set_option linter.unusedSimpArgs false
set_option maxRecDepth 100000
set_option maxHeartbeats 1000000


def textOf (l : List (Er × List (Int × Int))) : List UInt8 := l.flatMap fun p => lineOf p.1 p.2
def TelV (w : World) (p : (Er × List (Int × Int))) : Prop := Sm p.1 ∧ (1 ≤ p.1.k ∧ p.1.k ≤ 6) ∧ Prs w p.1 p.2
theorem TelV.below {w w1 : World} {p : (Er × List (Int × Int))} (h : TelV w p) (hb : Below w.heap.size w w1) : TelV w1 p := ⟨h.1, h.2.1, h.2.2.below hb⟩
theorem line_len {w : World} {p : (Er × List (Int × Int))} (h : TelV w p) : (lineOf p.1 p.2).length ≤ 22001 := by
  obtain ⟨h1, h2, h3⟩ := words_len h.1 h.2.2
  have := join_len _ h1
  unfold lineOf
  simp; omega
theorem text_len {w : World} : ∀ (l : List (Er × List (Int × Int))), (∀ p, p ∈ l → TelV w p) → (textOf l).length ≤ l.length * 22001 := by
  intro l
  induction l with
  | nil => intro _; simp [textOf]
  | cons p r ih =>
    intro h
    have h1 := line_len (h p (by simp))
    have h2 := ih (fun q hq => h q (by simp [hq]))
    unfold textOf at *
    rw [List.flatMap_cons, List.length_append, List.length_cons]
    omega
theorem text_snoc (l : List (Er × List (Int × Int))) (p : (Er × List (Int × Int))) : textOf (l ++ [p]) = textOf l ++ lineOf p.1 p.2 := by simp [textOf]
theorem text_app (l m : List (Er × List (Int × Int))) : textOf (l ++ m) = textOf l ++ textOf m := by simp [textOf]
theorem cells_app (a b : List UInt8) : Lib.byteCells a ++ Lib.strCells ⟨b.toArray⟩ = Lib.byteCells (a ++ b) := by simp [Lib.byteCells, Lib.strCells]
theorem builder_below {T e : TypeId} {B b : Nat} {p : Value} {bs : List Value} {w w1 : World} (h : Lib.BuilderAt T e B b p bs w) (hb : Below w.heap.size w w1) : Lib.BuilderAt T e B b p bs w1 := by
  obtain ⟨h1, v, h2, h3, h4⟩ := h
  exact ⟨h1, v, by rw [hb.block b (lt_of h2)]; exact h2, Ow.own_below h3 hb, h4⟩
theorem isb_below {T e : TypeId} {B b : Nat} {bs : List Value} {w w1 : World} (h : Lib.IsBuilder T e B b bs w) (hb : Below w.heap.size w w1) : Lib.IsBuilder T e B b bs w1 := by
  rcases h with h | h
  · exact .inl (builder_below h hb)
  · exact .inr (builder_below h hb)

theorem text_any (v : Value) (l : List (Er × List (Int × Int))) (w : World) (hev : Evs w v (l.map Prod.fst)) (hs : ∀ p, p ∈ l → TelV w p) (hlen : l.length ≤ 20000) :
    Calls Tryd.prog 10 #[v] w fun x w' => x = .returned (sv (textOf l)) ∧ Below w.heap.size w w' := by
  obtain ⟨a, cap, rfl, hc1, hc2, hat⟩ := hev.form
  rw [List.length_map] at *
  have HAT := Lib.hid hat
  have HS := Lib.hid hs
  clear hev hat hs
  obtain ⟨len, hll⟩ : ∃ len, len = l.length := ⟨_, rfl⟩
  rw [← hll] at hlen hc1 ⊢
  have HLL := Lib.hid hll
  clear hll
  obtain ⟨TX, hTX⟩ : ∃ TX, TX = textOf l := ⟨_, rfl⟩
  rw [← hTX]
  have HTX := Lib.hid hTX
  clear hTX
  go_enter Tryd.func10, Tryd.ntmps10
  go_wp2_with fail
  go_loopw [8] (fun b wr => ∃ (k : Nat), b = .int .i64 (k : Int) ∧ k ≤ len ∧ Lib.IsBuilder 55 5 w.heap.size w.heap.size (Lib.byteCells (textOf (l.take k))) wr ∧ Below w.heap.size w wr) (fun b _ => match b with | .int _ i => len - i.toNat | _ => 0)
  case atStart =>
    refine ⟨0, rfl, Nat.zero_le _, .inl ⟨Nat.le_refl _, .slice none 0 0, heap_alloc_new w _, World.ownsRow_nil _ _ _ _, by simp [Value.ownBlock]⟩, (Below.refl _ _).alloc (Nat.le_refl _) _⟩
  case round =>
    obtain ⟨k, rfl, hk, hI, hB⟩ := hrel
    by_cases hend : k = len
    · have b2 : ¬ ((k : Int) < (len : Int)) := by omega
      rw [hend, HLL.out, List.take_length, ← HTX.out] at hI
      have HST := Lib.hid (Tryd.Builder_String_any w.heap.size w.heap.size TX wr hI hB.size)
      have HB := Lib.hid hB
      clear hI hB hend hk
      try unfold sv
      go_wp2_with (go_at_call 15; refine HST.out.mono ?_; rintro e w5 ⟨rfl, hb5⟩; have HB5 := Lib.hid hb5; clear hb5)
      go_ret
      exact ⟨rfl, HB.out.trans HB5.out⟩
    · have hlt : k < len := by omega
      have hkl : k < l.length := by rw [← HLL.out]; exact hlt
      have hx := List.getElem?_eq_getElem hkl
      have hv := HS.out _ (List.getElem_mem hkl)
      obtain ⟨g, off, rfl, hg, hcell⟩ := HAT.out k l[k].1 (by rw [List.getElem?_map, hx]; rfl)
      have htake : textOf (l.take (k + 1)) = textOf (l.take k) ++ lineOf l[k].1 l[k].2 := by rw [List.take_add_one, hx]; exact text_snoc _ _
      have htl := text_len (w := w) (l.take k) (fun p hp => HS.out p (List.mem_of_mem_take hp))
      have hll2 := line_len hv
      generalize l[k] = p at *
      obtain ⟨e, ps⟩ := p
      simp only at hcell hll2 htake
      have c0 := hcell 0 (by omega)
      have c1 := hcell 1 (by omega)
      have c2 := hcell 2 (by omega)
      have c3 := hcell 3 (by omega)
      have c4 := hcell 4 (by omega)
      have c5 := hcell 5 (by omega)
      have c6 := hcell 6 (by omega)
      have c7 := hcell 7 (by omega)
      have c8 := hcell 8 (by omega)
      have c9 := hcell 9 (by omega)
      have c10 := hcell 10 (by omega)
      have c11 := hcell 11 (by omega)
      have kp : ∀ i, wr.cell? ⟨g, i, none⟩ = w.cell? ⟨g, i, none⟩ := fun i => hB.cell (p := ⟨g, i, none⟩) hg
      rw [← kp] at c0 c1 c2 c3 c4 c5 c6 c7 c8 c9 c10 c11
      rw [Nat.add_zero] at c0
      have hbA : Below w.heap.size w (wr.alloc (.cells (evC e).toArray 30)) := hB.alloc hB.size _
      have HLI := Lib.hid (line_any e ps (wr.alloc (.cells (evC e).toArray 30)) hv.1 (hv.2.2.below hbA) hv.2.1)
      have hIA := isb_below hI (((Below.refl _ _).alloc (Nat.le_refl _) _) : Below wr.heap.size wr (wr.alloc (.cells (evC e).toArray 30)))
      have hws : ∀ w1 : World, Below (wr.alloc (.cells (evC e).toArray 30)).heap.size (wr.alloc (.cells (evC e).toArray 30)) w1 → _ := fun w1 hb1 => Tryd.Builder_WriteString w.heap.size w.heap.size _ ⟨(lineOf e ps).toArray⟩ w1 (isb_below hIA hb1) (by rw [Lib.byteCells_length]; simp [ByteArray.size]; rw [List.length_take] at htl; omega) (Nat.le_trans hbA.size hb1.size)
      have b1 : (k : Int) < (len : Int) := by omega
      have b2 : (0 : Int) ≤ (k : Int) := by omega
      have HWS := Lib.hid hws
      have HBA := Lib.hid hbA
      have HTK := Lib.hid htake
      have HLT := Lib.hid hlt
      clear hws hbA htake hIA hI hB hcell hkl hx htl hll2 hv hend hk kp
      generalize hLO : lineOf e ps = LO at *
      have HLO := Lib.hid hLO
      clear hLO
      unfold sv at *
      obtain ⟨ek, et, en, o1, o2, o3, o4, re, rv, pa, pl, pc, ro, rr⟩ := e
      simp only [evC, List.getElem?_cons_zero, List.getElem?_cons_succ] at c0 c1 c2 c3 c4 c5 c6 c7 c8 c9 c10 c11
      go_wp2_with fail
      refine HLI.out.mono ?_
      rintro e w1 ⟨rfl, hb1⟩
      have HW1 := Lib.hid (HWS.out w1 hb1)
      have HB1 := Lib.hid hb1
      clear hb1 HWS
      go_wp2_with fail
      refine HW1.out.mono ?_
      rintro e w2 ⟨rfl, hbu, hb2⟩
      have HBU := Lib.hid hbu
      have HB2 := Lib.hid hb2
      clear hbu hb2
      go_wp2_with fail
      refine ⟨⟨k + 1, by rw [Int.natCast_add]; rfl, HLT.out, .inr ?_, (HBA.out.trans (HB1.out.mono HBA.out.size)).trans HB2.out⟩, ?_⟩
      · rw [HTK.out, ← cells_app]; exact HBU.out
      · simp only; have := HLT.out; omega
end Go.Proofs.YtehjlpipnaaifaaDoor.Tl
