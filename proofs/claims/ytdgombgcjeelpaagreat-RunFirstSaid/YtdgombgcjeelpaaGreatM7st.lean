/- Texts of this claim, laid together: Tp, Cp, Fre, Frk, St. -/
import Derived.Test.YtdgombgcjeelpaaGreatM6st
import Derived.Laws.ResultCell
import Derived.Laws.Rows
import Derived.Laws.EntriesVeiled
namespace Go.Proofs.YtdgombgcjeelpaaGreat.Em
open Go.ChangeShapes Go.WideShapes Go.ChangeAt Go.RowKit En
set_option linter.unusedVariables false
set_option linter.unusedSimpArgs false
set_option maxRecDepth 100000
set_option maxHeartbeats 1600000

def Book.tmp (A : Book) (b : Nat) : Book := { A with L := lab1 A.L b .tmp }
theorem mem_tmp (A : Book) (σ : St) (b : Nat) (q : Role) : memOf (A.tmp b) σ q = memOf A σ q := by cases q <;> rfl
theorem Stay.tmp (A : Book) (s b : Nat) : Stay A (A.tmp b) s := ⟨rfl, rfl, rfl, rfl, rfl, rfl, rfl, rfl, rfl, rfl, rfl, fun _ _ => rfl, fun _ _ => rfl⟩
/-- A variable is made. -/
theorem Rep.newTmp {A : Book} {σ : St} {w : World} (h : Rep A σ w) (o : Obj) : Rep (A.tmp w.heap.size) σ (w.alloc o) ∧ Grow A.L w (A.tmp w.heap.size).L (w.alloc o) ∧ (A.tmp w.heap.size).L w.heap.size = some .tmp ∧ (w.alloc o).heap[w.heap.size]? = some o := by
  have g : Grow A.L w (A.tmp w.heap.size).L (w.alloc o) := (Grow.alloc A.L w o).lab1 (Nat.le_refl _) _
  refine ⟨⟨⟨fun r => ?_, fun b hb => ?_⟩, h.ev.grow g, h.sl, h.nw, h.nt, h.nv, h.n8, h.nc⟩, g, lab1_same _ _ _, heap_alloc_new w o⟩
  · rw [mem_tmp]
    exact (h.mem.all r).frame (fun b hb _ => Below.heap_alloc w o b hb) (fun b hb => lab1_other (by omega))
  · have : w.heap.size + 1 ≤ b := by simpa using hb
    show lab1 A.L w.heap.size .tmp b = none
    rw [lab1_other (by omega)]
    exact h.mem.fresh b (by omega)
/-- A variable stays over a call. -/
theorem tmp_grow {L L' : Lab} {w w' : World} {b : Nat} {o : Obj} (h : L b = some .tmp ∧ w.heap[b]? = some o) (g : Grow L w L' w') : L' b = some .tmp ∧ w'.heap[b]? = some o := ⟨(g.lab b (lt_of h.2)).trans h.1, (g.keep b (lt_of h.2) h.1).trans h.2⟩
/-- Nothing but a variable's block turned. -/
structure But (b : Nat) (w w' : World) : Prop where
  os : w'.os = w.os
  tape : w'.tape = w.tape
  output : w'.output = w.output
  size : w'.heap.size = w.heap.size
  block : ∀ k, k ≠ b → w'.heap[k]? = w.heap[k]?
theorem But.setCell (w : World) (a : Addr) (v : Value) : But a.block w (w.setCell a v) := ⟨rfl, rfl, rfl, by simp [World.setCell], fun k hk => Below.heap_setCell _ _ _ _ hk⟩
theorem But.trans {b : Nat} {w w1 w2 : World} (h : But b w w1) (k : But b w1 w2) : But b w w2 := ⟨k.os.trans h.os, k.tape.trans h.tape, k.output.trans h.output, k.size.trans h.size, fun j hj => (k.block j hj).trans (h.block j hj)⟩
theorem But.setCells (b : Nat) : ∀ (vs : List Value) (o : Nat) (w : World), But b w (w.setCells b o vs)
  | [], _, w => ⟨rfl, rfl, rfl, rfl, fun _ _ => rfl⟩
  | v :: vs, o, w => (But.setCell w ⟨b, o, none⟩ v).trans (But.setCells b vs (o + 1) (w.setCell ⟨b, o, none⟩ v))
section
variable {L : Lab} {w w' : World} {b : Nat} (hl : L b = some .tmp) (h : But b w w')
include hl h
theorem Fix.but {k : Nat} {o : Obj} (f : Fix L w k o) : Fix L w' k o := ⟨f.1, (h.block k (by rintro rfl; have f1 := f.1; rw [hl] at f1; cases f1)).trans f.2⟩
theorem Box.but {k : Nat} {v : Value} (f : Box L w k v) : Box L w' k v := let ⟨T, f⟩ := f; ⟨T, f.but hl h⟩
theorem FRow.but {size : Nat} {v : Value} {xs : List Value} (f : FRow L w size v xs) : FRow L w' size v xs := by
  obtain ⟨ad, n, cap, rfl, e2, e3, e4, e5⟩ := f
  refine ⟨ad, n, cap, rfl, e2, e3, e4, ?_⟩
  rcases e5 with h0 | ⟨g, off, rfl, e7, e8, e9⟩
  · exact .inl h0
  · refine .inr ⟨g, off, rfl, e7, by rw [h.size]; exact e8, fun j hj => ?_⟩
    rw [World.cell?_of_block (w := w) (a := ⟨g, off + j, none⟩) (h.block g (by rintro rfl; rw [hl] at e7; cases e7))]
    exact e9 j hj
theorem PRow.but {v : Value} {xs : List Value} (f : PRow L w v xs) : PRow L w' v xs := by
  refine ⟨f.1.but hl h, fun g off n cap hv => ?_⟩
  rcases f.2 g off n cap hv with h0 | ⟨cs, hc⟩
  · exact .inl h0
  · by_cases hn : n = 0
    · exact .inl hn
    · obtain ⟨ad, n', cap', e1, e2, e3, e4, e5⟩ := f.1
      obtain ⟨rfl, rfl, rfl⟩ : ad = some ⟨g, off, none⟩ ∧ n' = n ∧ cap' = cap := by rw [hv] at e1; simp at e1; exact ⟨e1.1.symm, e1.2.1.symm, e1.2.2.symm⟩
      obtain ⟨g', off', e6, e7, _⟩ := e5.resolve_left hn
      obtain ⟨rfl, rfl⟩ : g = g' ∧ off = off' := by simpa using e6
      exact .inr ⟨cs, (h.block g (by rintro rfl; rw [hl] at e7; cases e7)).trans hc⟩
theorem Evs.but : ∀ {l : List Ev} {xs : List Value}, Evs L w l xs → Evs L w' l xs
  | [], _, f => f
  | _ :: _, _, ⟨vp, ys, h1, h2, h3⟩ => ⟨vp, ys, h1, h2.but hl h, Evs.but h3⟩
end
theorem Rep.but {A : Book} {σ : St} {w w' : World} {b : Nat} (hR : Rep A σ w) (hl : A.L b = some .tmp) (h : But b w w') : Rep A σ w' := by
  refine ⟨⟨fun r => ?_, fun k hk => hR.mem.fresh k (by rw [← h.size]; exact hk)⟩, hR.ev.but hl h, hR.sl, hR.nw, hR.nt, hR.nv, hR.n8, hR.nc⟩
  by_cases hr : r = .tmp
  · subst hr; trivial
  · refine (hR.mem.all r).frame (fun k hk hk' => h.block k ?_) (fun _ _ => rfl)
    rintro rfl
    rw [hl] at hk'
    exact hr (Option.some.inj hk').symm
theorem Grow.but {L L' : Lab} {w w1 w2 : World} {b : Nat} (g : Grow L w L' w1) (hb : w.heap.size ≤ b) (h : But b w1 w2) : Grow L w L' w2 :=
  ⟨h.os.trans g.os, h.tape.trans g.tape, h.output.trans g.output, by rw [h.size]; exact g.size, fun k hk hl => (h.block k (by omega)).trans (g.block k hk hl), g.lab, fun k hk hl => (h.block k (by omega)).trans (g.keep k hk hl)⟩
/-- Blocks without a label stay, and stay so. -/
structure Soft (L : Lab) (w : World) (L' : Lab) (w' : World) : Prop where
  size : w.heap.size ≤ w'.heap.size
  block : ∀ b, b < w.heap.size → L b = none → w'.heap[b]? = w.heap[b]?
  lab : ∀ b, b < w.heap.size → L b = none → L' b = none
section
variable {p : KP} {L L' : Lab} {w w' : World}
theorem Fix.soft {b : Nat} {o : Obj} (h : Fix L w b o) (g : Soft L w L' w') : Fix L' w' b o := ⟨g.lab b (lt_of h.2) h.1, (g.block b (lt_of h.2) h.1).trans h.2⟩
theorem Box.soft {b : Nat} {v : Value} (h : Box L w b v) (g : Soft L w L' w') : Box L' w' b v := let ⟨T, h⟩ := h; ⟨T, h.soft g⟩
theorem FRow.soft {size : Nat} {v : Value} {xs : List Value} (h : FRow L w size v xs) (g : Soft L w L' w') : FRow L' w' size v xs := by
  obtain ⟨a, n, cap, h1, h2, h3, h4, h5⟩ := h
  refine ⟨a, n, cap, h1, h2, h3, h4, ?_⟩
  rcases h5 with h5 | ⟨b, off, e1, e2, e3, e4⟩
  · exact .inl h5
  · refine .inr ⟨b, off, e1, g.lab b e3 e2, Nat.lt_of_lt_of_le e3 g.size, fun j hj => ?_⟩
    rw [World.cell?_of_block (w := w) (a := ⟨b, off + j, none⟩) (g.block b e3 e2)]
    exact e4 j hj
theorem ResBox.soft {b : Nat} {r : Res} (h : ResBox p L w b r) (g : Soft L w L' w') : ResBox p L' w' b r := let ⟨vp, T, h1, h2⟩ := h; ⟨vp, T, h1.soft g, h2⟩
theorem StampBox.soft {b n : Nat} (h : StampBox L w b n) (g : Soft L w L' w') : StampBox L' w' b n := let ⟨T, h1⟩ := h; ⟨T, h1.soft g⟩
theorem SeenBox.soft {b n : Nat} (h : SeenBox L w b n) (g : Soft L w L' w') : SeenBox L' w' b n := let ⟨T, k, q, h1⟩ := h; ⟨T, k, q, h1.soft g⟩
theorem HeadBox.soft {b n : Nat} {x : Bool} (h : HeadBox L w b x n) (g : Soft L w L' w') : HeadBox L' w' b x n := let ⟨v, h1, h2⟩ := h; ⟨v, h1.soft g, h2.soft g⟩
theorem ListBox.soft {b : Nat} {l : List Trn} (h : ListBox L w b l) (g : Soft L w L' w') : ListBox L' w' b l := let ⟨v, h1, h2⟩ := h; ⟨v, h1.soft g, h2.soft g⟩
theorem TellBox.soft {b k : Nat} (h : TellBox p L w b k) (g : Soft L w L' w') : TellBox p L' w' b k := let ⟨v, h1, c0, c1, e, k0, k1⟩ := h; ⟨v, h1.soft g, c0, c1, e, k0.soft g, k1.soft g⟩
theorem NextBox.soft {b l1 l2 l3 : Nat} (h : NextBox p L w b l1 l2 l3) (g : Soft L w L' w') : NextBox p L' w' b l1 l2 l3 := let ⟨v, h1, c0, c1, c2, c3, c4, c5, e, k0, k1, k2, k3, k4, k5⟩ := h; ⟨v, h1.soft g, c0, c1, c2, c3, c4, c5, e, k0.soft g, k1.soft g, k2.soft g, k3.soft g, k4.soft g, k5.soft g⟩
theorem TurnBox.soft {b l1 l2 : Nat} (h : TurnBox p L w b l1 l2) (g : Soft L w L' w') : TurnBox p L' w' b l1 l2 := let ⟨v, h1, c0, c1, c2, c3, c4, e, k0, k1, k2, k3, k4⟩ := h; ⟨v, h1.soft g, c0, c1, c2, c3, c4, e, k0.soft g, k1.soft g, k2.soft g, k3.soft g, k4.soft g⟩
theorem ThnRep.soft {v : Value} {key : Nat} {t : Thn} (h : ThnRep p L w v key t) (g : Soft L w L' w') : ThnRep p L' w' v key t :=
  match t, h with
  | .get, hh => let ⟨b0, b1, b2, b3, e, k0, k1, k2, k3⟩ := hh; ⟨b0, b1, b2, b3, e, k0.soft g, k1.soft g, k2.soft g, k3.soft g⟩
  | .scan k, hh => let ⟨b0, b1, b2, b3, b4, e, k0, k1, k2, k3, k4⟩ := hh; ⟨b0, b1, b2, b3, b4, e, k0.soft g, k1.soft g, k2.soft g, k3.soft g, k4.soft g⟩
  | .change, hh => let ⟨b0, b1, b2, b3, e, k0, k1, k2, k3⟩ := hh; ⟨b0, b1, b2, b3, e, k0.soft g, k1.soft g, k2.soft g, k3.soft g⟩
  | .judge i l, hh => let ⟨b0, b1, b2, b3, b4, e, k0, k1, k2, k3, k4⟩ := hh; ⟨b0, b1, b2, b3, b4, e, k0.soft g, k1.soft g, k2.soft g, k3.soft g, k4.soft g⟩
theorem HuntAt.soft {b : Nat} {h : Hunt} (hh : HuntAt p L w b h) (g : Soft L w L' w') : HuntAt p L' w' b h := let ⟨v, T, h1, h2⟩ := hh; ⟨v, T, h1.soft g, h2.soft g⟩
theorem HuntBox.soft {b : Nat} {h : Hunt} (hh : HuntBox p L w b h) (g : Soft L w L' w') : HuntBox p L' w' b h := let ⟨v, h1, h2⟩ := hh; ⟨v, h1.soft g, h2.soft g⟩
theorem KRep.soft {v : Value} {k : K} (h : KRep p L w v k) (g : Soft L w L' w') : KRep p L' w' v k :=
  match k, h with
  | .start _, ⟨bh, e, h1⟩ => ⟨bh, e, h1.soft g⟩
  | .fin r, hh => let ⟨b0, b1, b2, e, k0, k1, k2⟩ := hh; ⟨b0, b1, b2, e, k0.soft g, k1.soft g, k2.soft g⟩
  | .visit h link, hh => let ⟨b0, b1, e, k0, k1⟩ := hh; ⟨b0, b1, e, k0.soft g, k1.soft g⟩
  | .older h link, hh => let ⟨b0, b1, e, k0, k1⟩ := hh; ⟨b0, b1, e, k0.soft g, k1.soft g⟩
  | .maker h link id, hh => let ⟨b0, b1, b2, e, k0, k1, k2⟩ := hh; ⟨b0, b1, b2, e, k0.soft g, k1.soft g, k2.soft g⟩
  | .ended h link mb, hh => let ⟨b0, b1, b2, e, k0, k1, k2⟩ := hh; ⟨b0, b1, b2, e, k0.soft g, k1.soft g, k2.soft g⟩
  | .ender h link mb id, hh => let ⟨b0, b1, b2, b3, e, k0, k1, k2, k3⟩ := hh; ⟨b0, b1, b2, b3, e, k0.soft g, k1.soft g, k2.soft g, k3.soft g⟩
  | .seen h link mb, hh => let ⟨b0, b1, b2, e, k0, k1, k2⟩ := hh; ⟨b0, b1, b2, e, k0.soft g, k1.soft g, k2.soft g⟩
  | .again end_, hh => let ⟨b0, b1, b2, b3, e, k0, k1, k2, k3⟩ := hh; ⟨b0, b1, b2, b3, e, k0.soft g, k1.soft g, k2.soft g, k3.soft g⟩
  | .own link, hh => let ⟨b0, b1, b2, b3, e, k0, k1, k2, k3⟩ := hh; ⟨b0, b1, b2, b3, e, k0.soft g, k1.soft g, k2.soft g, k3.soft g⟩
  | .ownTxn link w1 id, hh => let ⟨b0, b1, b2, b3, b4, b5, e, k0, k1, k2, k3, k4, k5⟩ := hh; ⟨b0, b1, b2, b3, b4, b5, e, k0.soft g, k1.soft g, k2.soft g, k3.soft g, k4.soft g, k5.soft g⟩
  | .claim link w1, hh => let ⟨b0, b1, b2, b3, b4, e, k0, k1, k2, k3, k4⟩ := hh; ⟨b0, b1, b2, b3, b4, e, k0.soft g, k1.soft g, k2.soft g, k3.soft g, k4.soft g⟩
  | .fresh link, hh => let ⟨b0, b1, b2, b3, e, k0, k1, k2, k3⟩ := hh; ⟨b0, b1, b2, b3, e, k0.soft g, k1.soft g, k2.soft g, k3.soft g⟩
  | .next link head at_, hh => let ⟨b0, b1, b2, b3, b4, b5, e, k0, k1, k2, k3, k4, k5⟩ := hh; ⟨b0, b1, b2, b3, b4, b5, e, k0.soft g, k1.soft g, k2.soft g, k3.soft g, k4.soft g, k5.soft g⟩
  | .free link head at_, hh => let ⟨b0, b1, b2, b3, b4, b5, e, k0, k1, k2, k3, k4, k5⟩ := hh; ⟨b0, b1, b2, b3, b4, b5, e, k0.soft g, k1.soft g, k2.soft g, k3.soft g, k4.soft g, k5.soft g⟩
  | .freeTxn link head at_ id, hh => let ⟨b0, b1, b2, b3, b4, b5, e, k0, k1, k2, k3, k4, k5⟩ := hh; ⟨b0, b1, b2, b3, b4, b5, e, k0.soft g, k1.soft g, k2.soft g, k3.soft g, k4.soft g, k5.soft g⟩
  | .slotB x link head, hh => let ⟨b0, b1, b2, b3, b4, b5, e, k0, k1, k2, k3, k4, k5⟩ := hh; ⟨b0, b1, b2, b3, b4, b5, e, k0.soft g, k1.soft g, k2.soft g, k3.soft g, k4.soft g, k5.soft g⟩
  | .slotE x link head, hh => let ⟨b0, b1, b2, b3, b4, b5, e, k0, k1, k2, k3, k4, k5⟩ := hh; ⟨b0, b1, b2, b3, b4, b5, e, k0.soft g, k1.soft g, k2.soft g, k3.soft g, k4.soft g, k5.soft g⟩
  | .push link head, hh => let ⟨b0, b1, b2, b3, b4, e, k0, k1, k2, k3, k4⟩ := hh; ⟨b0, b1, b2, b3, b4, e, k0.soft g, k1.soft g, k2.soft g, k3.soft g, k4.soft g⟩
  | .pushC link head, hh => let ⟨b0, b1, b2, b3, b4, e, k0, k1, k2, k3, k4⟩ := hh; ⟨b0, b1, b2, b3, b4, e, k0.soft g, k1.soft g, k2.soft g, k3.soft g, k4.soft g⟩
  | .over link, hh => let ⟨b0, b1, b2, b3, b4, e, k0, k1, k2, k3, k4⟩ := hh; ⟨b0, b1, b2, b3, b4, e, k0.soft g, k1.soft g, k2.soft g, k3.soft g, k4.soft g⟩
  | .overN link head, hh => let ⟨b0, b1, b2, b3, b4, b5, e, k0, k1, k2, k3, k4, k5⟩ := hh; ⟨b0, b1, b2, b3, b4, b5, e, k0.soft g, k1.soft g, k2.soft g, k3.soft g, k4.soft g, k5.soft g⟩
  | .overC link head, hh => let ⟨b0, b1, b2, b3, b4, b5, e, k0, k1, k2, k3, k4, k5⟩ := hh; ⟨b0, b1, b2, b3, b4, b5, e, k0.soft g, k1.soft g, k2.soft g, k3.soft g, k4.soft g, k5.soft g⟩
  | .draw, hh => let ⟨b0, b1, b2, e, k0, k1, k2⟩ := hh; ⟨b0, b1, b2, e, k0.soft g, k1.soft g, k2.soft g⟩
  | .drawH w1 now, hh => let ⟨b0, b1, b2, e, k0, k1, k2⟩ := hh; ⟨b0, b1, b2, e, k0.soft g, k1.soft g, k2.soft g⟩
  | .turn w1 now, hh => let ⟨b0, b1, b2, b3, b4, e, k0, k1, k2, k3, k4⟩ := hh; ⟨b0, b1, b2, b3, b4, e, k0.soft g, k1.soft g, k2.soft g, k3.soft g, k4.soft g⟩
  | .helpJ, hh => let ⟨b0, b1, b2, e, k0, k1, k2⟩ := hh; ⟨b0, b1, b2, e, k0.soft g, k1.soft g, k2.soft g⟩
  | .wait i, hh => let ⟨b0, b1, b2, b3, b4, e, k0, k1, k2, k3, k4⟩ := hh; ⟨b0, b1, b2, b3, b4, e, k0.soft g, k1.soft g, k2.soft g, k3.soft g, k4.soft g⟩
  | .turns [] r, hh => let ⟨b0, b1, b2, b3, e, k0, k1, k2, k3⟩ := hh; ⟨b0, b1, b2, b3, e, k0.soft g, k1.soft g, k2.soft g, k3.soft g⟩
  | .turns (x :: l) r, hh => let ⟨b0, b1, b2, b3, b4, e, k0, k1, k2, k3, k4⟩ := hh; ⟨b0, b1, b2, b3, b4, e, k0.soft g, k1.soft g, k2.soft g, k3.soft g, k4.soft g⟩
  | .commit, hh => let ⟨b0, b1, b2, e, k0, k1, k2⟩ := hh; ⟨b0, b1, b2, e, k0.soft g, k1.soft g, k2.soft g⟩
  | .abort e reason, hh => let ⟨b0, b1, b2, b3, b4, e, k0, k1, k2, k3, k4⟩ := hh; ⟨b0, b1, b2, b3, b4, e, k0.soft g, k1.soft g, k2.soft g, k3.soft g, k4.soft g⟩
end
theorem But.soft {L : Lab} {w w' : World} {b : Nat} (hl : L b = some .tmp) (h : But b w w') : Soft L w L w' := ⟨by rw [h.size]; exact Nat.le_refl _, fun k hk e => h.block k (by rintro rfl; rw [hl] at e; cases e), fun _ _ e => e⟩
theorem heap_setCell_same {w : World} {b : Nat} {cs : Array Value} {T : TypeId} (h : w.heap[b]? = some (.cells cs T)) (i : Nat) (v : Value) : (w.setCell ⟨b, i, none⟩ v).heap[b]? = some (.cells (cs.setIfInBounds i v) T) := by
  simp only [World.setCell, Array.getElem?_modify, h]
  simp
/-- A block of six cells is stored into, whole. -/
theorem heap_setCells6 {w : World} {b : Nat} {a0 a1 a2 a3 a4 a5 : Value} {T : TypeId} (h : w.heap[b]? = some (.cells #[a0, a1, a2, a3, a4, a5] T)) (v0 v1 v2 v3 v4 v5 : Value) : (w.setCells b 0 [v0, v1, v2, v3, v4, v5]).heap[b]? = some (.cells #[v0, v1, v2, v3, v4, v5] T) := by
  have h1 := heap_setCell_same h 0 v0
  have h2 := heap_setCell_same h1 1 v1
  have h3 := heap_setCell_same h2 2 v2
  have h4 := heap_setCell_same h3 3 v3
  have h5 := heap_setCell_same h4 4 v4
  have h6 := heap_setCell_same h5 5 v5
  exact h6
theorem heap_setCells5 {w : World} {b : Nat} {a0 a1 a2 a3 a4 : Value} {T : TypeId} (h : w.heap[b]? = some (.cells #[a0, a1, a2, a3, a4] T)) (v0 v1 v2 v3 v4 : Value) : (w.setCells b 0 [v0, v1, v2, v3, v4]).heap[b]? = some (.cells #[v0, v1, v2, v3, v4] T) := by
  have h1 := heap_setCell_same h 0 v0
  have h2 := heap_setCell_same h1 1 v1
  have h3 := heap_setCell_same h2 2 v2
  have h4 := heap_setCell_same h3 3 v3
  have h5 := heap_setCell_same h4 4 v4
  exact h5
theorem there_of {w : World} {b : Nat} {cs : Array Value} {T : TypeId} (h : w.heap[b]? = some (.cells cs T)) : w.there b 0 cs.size := by
  intro j hj
  rw [Nat.zero_add]
  refine ⟨?_, by simp [World.frozen?, h]⟩
  rw [cell_of_row w b j _ _ _ h]
  simp [hj]
end Go.Proofs.YtdgombgcjeelpaaGreat.Em

namespace Go.Proofs.YtdgombgcjeelpaaGreat.Em
open Go.ChangeShapes Go.WideShapes Go.ChangeAt Go.RowKit En
set_option linter.unusedVariables false
set_option linter.unusedSimpArgs false
set_option maxRecDepth 100000
set_option maxHeartbeats 1600000

theorem results_cell_tmp_row {P : Program} {fn : Func} {p u : Tmp} {ty : TypeId} (h : fn.results = #[.cell p ty, .tmp u]) (tmps : Array Value) (w : World) (g : Nat) (t : TypeId) (cs : Array Value) (fr : Nat × Nat) (d : TypeDesc)
    (hp : tmps.getD p undef = .pointer (some ⟨g, 0, none⟩)) (hg : w.heap[g]? = some (.cells cs t fr))
    (hu : P.underlying ty = some d) (hd : (match d with | .struct _ | .array _ _ => true | _ => false) = true) (hi : (P.info? ty).map (·.size) = some cs.size) :
    (results fn tmps).run P w = .ok (.tuple #[.agg cs, tmps.getD u undef]) w := by
  rw [results_cell_tmp h, hp]
  simp [asAddr, run_loadVar_row w g t ty cs fr d hg hu hd hi, Result.andThen]
theorem copied_nil (w : World) (re rv ro rr : Int) (a : Option Addr) (cap : Nat) :
    Calls Tryz.prog 49 #[.agg #[.int .i64 re, .int .i64 rv, .slice a 0 cap, .int .i64 ro, .int .i64 rr]] w fun e w' => e = .returned (.agg #[.int .i64 re, .int .i64 rv, .slice none 0 0, .int .i64 ro, .int .i64 rr]) ∧ Below w.heap.size w w' := by
  have hb : Below w.heap.size w (((w.alloc (.cells #[.int .i64 re, .int .i64 rv, .slice none 0 0, .int .i64 ro, .int .i64 rr] 42))).alloc (.cells #[.int .i64 re, .int .i64 rv, .slice none 0 0, .int .i64 ro, .int .i64 rr] 42)) := (((Below.refl _ _).alloc (Nat.le_refl _) _)).alloc (by simp) _
  have HB := Lib.hid hb
  clear hb
  cases a with
  | none =>
    go_enter Tryz.func49, Tryz.ntmps49
    go_wp2
    (try simp only [Exit.inBlock, Exit.then])
    refine bodyPost_ret (results_cell_row rfl _ _ (w.heap.size + 1) 42 #[.int .i64 re, .int .i64 rv, .slice none 0 0, .int .i64 ro, .int .i64 rr] _ _ rfl (heap_alloc2_new w _ _) Tryz.underlying42 rfl (by kernel_rfl)) rfl ?_
    exact ⟨rfl, HB.out⟩
  | some x =>
    go_enter Tryz.func49, Tryz.ntmps49
    go_wp2
    (try simp only [Exit.inBlock, Exit.then])
    refine bodyPost_ret (results_cell_row rfl _ _ (w.heap.size + 1) 42 #[.int .i64 re, .int .i64 rv, .slice none 0 0, .int .i64 ro, .int .i64 rr] _ _ rfl (heap_alloc2_new w _ _) Tryz.underlying42 rfl (by kernel_rfl)) rfl ?_
    exact ⟨rfl, HB.out⟩
end Go.Proofs.YtdgombgcjeelpaaGreat.Em

namespace Go.Proofs.YtdgombgcjeelpaaGreat.Em
open Go.ChangeShapes Go.WideShapes Go.ChangeAt Go.RowKit En
set_option linter.unusedVariables false
set_option linter.unusedSimpArgs false
set_option maxRecDepth 100000
set_option maxHeartbeats 1600000

theorem free_any {A : Book} {σ : St} {w : World} (hR : Rep A σ w) (s : Nat) (c : Cal) (hc : σ.calls.getD s none = some c) (link head at_ : Nat) (hv0 : link = 0 ∨ VL σ link)
    (hm : A.mp = 0) (hn : σ.free.length < 100000) (hfree : ∀ i ∈ σ.list.free, i < σ.slots) (htag : ∀ i, i < σ.slots → (σ.tags.getD i (0, false)).1 ≤ 65535) :
    Calls Tryz.prog 147 #[.pointer (some ⟨A.be, 0, none⟩), .pointer (some ⟨A.bt s, 0, none⟩), .pointer (some ⟨A.bc s, 0, none⟩), .int .u64 (link : Int), .int .u64 (head : Int), .int .u64 (at_ : Int)] w (Tells A w s (σ.freeK s link head at_)) := by
  obtain ⟨r6, g6, f0, f1, f2, f3, f4, f5⟩ := allocs6 hR #[.pointer (some ⟨A.be, 0, none⟩)] 27 #[.pointer (some ⟨A.bt s, 0, none⟩)] 93 #[.pointer (some ⟨A.bc s, 0, none⟩)] 98 #[.int .u64 (link : Int)] 24 #[.int .u64 (head : Int)] 24 #[.int .u64 (at_ : Int)] 24
  have k0 := f0.cell 0 rfl
  have k1 := f1.cell 0 rfl
  have k2 := f2.cell 0 rfl
  have k3 := f3.cell 0 rfl
  have k4 := f4.cell 0 rfl
  have k5 := f5.cell 0 rfl
  unfold St.freeK
  by_cases h0 : at_ = 0
  · rw [if_pos h0]
    have d1 : ((at_ : Int) == 0) = true := by simpa using h0
    have d2 : ((at_ : Int) = 0) = True := by simpa using h0
    obtain ⟨r7, g7, f6⟩ := allocs1 r6 #[.int .u64 (head : Int)] 24
    have hrow : FRow A.L (((((((w.alloc (.cells #[.pointer (some ⟨A.be, 0, none⟩)] 27)).alloc (.cells #[.pointer (some ⟨A.bt s, 0, none⟩)] 93)).alloc (.cells #[.pointer (some ⟨A.bc s, 0, none⟩)] 98)).alloc (.cells #[.int .u64 (link : Int)] 24)).alloc (.cells #[.int .u64 (head : Int)] 24)).alloc (.cells #[.int .u64 (at_ : Int)] 24)).alloc (.cells #[.int .u64 (head : Int)] 24)) 1 (.slice (some ⟨w.heap.size + 6, 0, none⟩) 1 1) (if false then [] else [u64 head]) := by
      rw [show ((((((w.alloc (.cells #[.pointer (some ⟨A.be, 0, none⟩)] 27)).alloc (.cells #[.pointer (some ⟨A.bt s, 0, none⟩)] 93)).alloc (.cells #[.pointer (some ⟨A.bc s, 0, none⟩)] 98)).alloc (.cells #[.int .u64 (link : Int)] 24)).alloc (.cells #[.int .u64 (head : Int)] 24)).alloc (.cells #[.int .u64 (at_ : Int)] 24)).heap.size = w.heap.size + 6 by simp] at f6
      refine ⟨_, _, _, rfl, rfl, by omega, by unfold maxLen; omega, .inr ⟨_, 0, rfl, f6.1, ?_, ?_⟩⟩
      · simp
      · intro j hj
        have hj0 : j = 0 := by omega
        subst hj0
        exact f6.cell 0 rfl
    have HS := Lib.hid (slot_tells r7 s c hc false link head _ hrow hv0 hm hn hfree htag)
    have HG := Lib.hid (g6.trans g7)
    clear hR hc hv0 hm hn hfree htag h0 hrow r6 g6 r7 g7 f0 f1 f2 f3 f4 f5 f6
    go_enter Tryz.func147, Tryz.ntmps147
    go_wp2_with (go_at_call 144; refine HS.out.mono ?_; rintro e w2 ⟨A2, v, rfl, p1, p2, p3, p4⟩)
    go_ret
    exact ⟨A2, v, rfl, p1, HG.out.trans p2, p3, p4⟩
  · rw [if_neg h0]
    have d1 : ((at_ : Int) == 0) = false := by simpa using h0
    have d2 : ((at_ : Int) = 0) = False := by simpa using h0
    obtain ⟨r7, g7, f6⟩ := allocs1 r6 #[.func (.func 167) #[] #[.pointer (some ⟨w.heap.size, 0, none⟩), .pointer (some ⟨w.heap.size + 1, 0, none⟩), .pointer (some ⟨w.heap.size + 2, 0, none⟩), .pointer (some ⟨w.heap.size + 3, 0, none⟩), .pointer (some ⟨w.heap.size + 4, 0, none⟩), .pointer (some ⟨w.heap.size + 5, 0, none⟩)]] 122
    have HG := Lib.hid (And.intro r7 (And.intro (g6.trans g7) (And.intro (f0.grow g7).box (And.intro (f1.grow g7).box (And.intro (f2.grow g7).box (And.intro (f3.grow g7).box (And.intro (f4.grow g7).box (And.intro (f5.grow g7).box f6.box))))))))
    clear hR hc hv0 hm hn hfree htag h0 r6 g6 r7 g7 f0 f1 f2 f3 f4 f5 f6
    go_enter Tryz.func147, Tryz.ntmps147
    go_wp2
    go_ret
    obtain ⟨r7, g7, f0, f1, f2, f3, f4, f5, f6⟩ := HG.out
    have hsz : ((((((w.alloc (.cells #[.pointer (some ⟨A.be, 0, none⟩)] 27)).alloc (.cells #[.pointer (some ⟨A.bt s, 0, none⟩)] 93)).alloc (.cells #[.pointer (some ⟨A.bc s, 0, none⟩)] 98)).alloc (.cells #[.int .u64 (link : Int)] 24)).alloc (.cells #[.int .u64 (head : Int)] 24)).alloc (.cells #[.int .u64 (at_ : Int)] 24)).heap.size = w.heap.size + 6 := by simp
    rw [hsz] at f6
    exact ⟨A, _, rfl, r7, g7, Stay.refl _ _, _, _, _, _, _, _, rfl, f0, f5, f1, ⟨_, f6, _, _, _, _, _, _, rfl, f0, f1, f2, f3, f4, f5⟩, f2, f3⟩
end Go.Proofs.YtdgombgcjeelpaaGreat.Em

namespace Go.Proofs.YtdgombgcjeelpaaGreat.Em
open Go.ChangeShapes Go.WideShapes Go.ChangeAt Go.RowKit En
set_option linter.unusedVariables false
set_option linter.unusedSimpArgs false
set_option maxRecDepth 100000
set_option maxHeartbeats 1600000

/-- The pool is as it may be. -/
structure PoolOk (σ : St) : Prop where
  n : σ.free.length < 100000
  free : ∀ i ∈ σ.free, i < σ.slots
  tag : ∀ i, i < σ.slots → (σ.tags.getD i (0, false)).1 ≤ 65535
  worn : σ.worn < 1000000
theorem PoolOk.list {σ : St} (h : PoolOk σ) : ∀ i ∈ σ.list.free, i < σ.slots := by
  unfold St.list
  split
  · exact h.free
  · intro i hi
    rcases List.mem_append.1 hi with h1 | h1
    · exact h.free i h1
    · simpa using h1
theorem load_i {A : Book} {σ : St} {w : World} (h : Rep A σ w) (i : Nat) (z : Int) (hz : z = (i : Int)) (hi : i < σ.words.length) (hc : σ.count < 4000000000000000000) :
    Calls Tryz.prog 66 #[.pointer (some ⟨A.ba, 0, none⟩), .int .i64 z] w (Did A w σ.tick (.int .u64 (σ.word i : Int))) := by subst hz; exact load_any h i hi hc
theorem k_fresh {A : Book} {σ : St} {w : World} (hR : Rep A σ w) (s : Nat) (c : Cal) (hc : σ.calls.getD s none = some c) (link : Nat) (hv0 : link = 0 ∨ VL σ link) (hk : c.op.key < 64) (hm : A.mp = 0) (hp : PoolOk σ) (hcnt : σ.count < 4000000000000000000)
    (b0 b1 b2 b3 : Nat) (B0 : Box A.L w b0 (.pointer (some ⟨A.be, 0, none⟩))) (B1 : Box A.L w b1 (.pointer (some ⟨A.bc s, 0, none⟩))) (B2 : Box A.L w b2 (.pointer (some ⟨A.bt s, 0, none⟩))) (B3 : Box A.L w b3 (.int .u64 (link : Int))) :
    Calls Tryz.prog 146 #[.pointer (some ⟨b0, 0, none⟩), .pointer (some ⟨b1, 0, none⟩), .pointer (some ⟨b2, 0, none⟩), .pointer (some ⟨b3, 0, none⟩)] w (Ran A w s (σ.run s (.fresh link))) := by
  have c0 := B0.cell
  have c1 := B1.cell
  have e2 : w.cell? ⟨A.be, 2, none⟩ = some (.pointer (some ⟨A.ba, 0, none⟩)) := hR.eng 2 rfl
  have k1 : w.cell? ⟨A.bc s, 1, none⟩ = some (.int .i64 (c.op.key : Int)) := hR.call hc 1 rfl
  have n1 : IntKind.i64.wrap (9 + (c.op.key : Int)) = 9 + (c.op.key : Int) := by rw [IntKind.wrap_i64]; omega
  have HL := Lib.hid (load_i hR.drew (9 + c.op.key) (9 + (c.op.key : Int)) (by omega) (by rw [hR.nw]; omega) hcnt)
  have hrun : σ.run s (.fresh link) = (((σ.tick.freeK s link (σ.word (9 + c.op.key)) (σ.word (9 + c.op.key)))).1, some ((σ.tick.freeK s link (σ.word (9 + c.op.key)) (σ.word (9 + c.op.key)))).2) := by
    simp only [St.run, call_get hc]
  rw [hrun]
  have HB : Hid (∀ w1, Rep A σ.tick w1 → Grow A.L w.drew A.L w1 → Calls Tryz.prog 147 #[.pointer (some ⟨A.be, 0, none⟩), .pointer (some ⟨A.bt s, 0, none⟩), .pointer (some ⟨A.bc s, 0, none⟩), .int .u64 (link : Int), .int .u64 (σ.word (9 + c.op.key) : Int), .int .u64 (σ.word (9 + c.op.key) : Int)] w1 (Tells A w1 s (σ.tick.freeK s link (σ.word (9 + c.op.key)) (σ.word (9 + c.op.key)))) ∧ w1.cell? ⟨b0, 0, none⟩ = some (.pointer (some ⟨A.be, 0, none⟩)) ∧ w1.cell? ⟨b1, 0, none⟩ = some (.pointer (some ⟨A.bc s, 0, none⟩)) ∧ w1.cell? ⟨b2, 0, none⟩ = some (.pointer (some ⟨A.bt s, 0, none⟩)) ∧ w1.cell? ⟨b3, 0, none⟩ = some (.int .u64 (link : Int)) ∧ Grow A.L w A.L w1) := by
    intro w1 q1 q2
    have g : Grow A.L w A.L w1 := (Grow.drew _ _).trans q2
    exact ⟨free_any q1 s c hc link _ _ (hv0.imp id fun h => ⟨h.lo, h.hi, h.u⟩) hm hp.n (PoolOk.list (σ := σ.tick) ⟨hp.n, hp.free, hp.tag, hp.worn⟩) hp.tag, (B0.grow g).cell, (B1.grow g).cell, (B2.grow g).cell, (B3.grow g).cell, g⟩
  clear hR hc hv0 hm hp hcnt B0 B1 B2 B3 hrun hk
  generalize σ.tick.freeK s link (σ.word (9 + c.op.key)) (σ.word (9 + c.op.key)) = res at *
  generalize σ.word (9 + c.op.key) = hd at *
  generalize c.op.key = key at *
  go_enter Tryz.func146, Tryz.ntmps146
  go_wp2_with fail
  refine wp_region_still_tail 10 (by kernel_rfl) (by kernel_rfl) ?_
  simp only [List.take_succ_cons, List.take_zero, List.drop_succ_cons, List.drop_zero]
  repeat still_step
  refine wpStill_nil ?_
  change wpList _ _ _ _ _ w.drew
  generalize w.drew = wd at *
  go_wp2_with (first | (go_at_call 66; refine HL.out.mono ?_; rintro e w1 ⟨rfl, q1, q2⟩; obtain ⟨hf, d0, d1, d2, d3, g1⟩ := HB.out w1 q1 q2; have HF := Lib.hid (And.intro hf g1); clear q1 q2 hf g1) | (go_at_call 147; refine HF.out.1.mono ?_; rintro e w2 ⟨A2, v, rfl, p1, p2, p3, p4⟩))
  go_ret
  exact ⟨A2, v, rfl, p1, HF.out.2.trans p2, p3, p4⟩

theorem k_next {A : Book} {σ : St} {w : World} (hR : Rep A σ w) (s : Nat) (c : Cal) (hc : σ.calls.getD s none = some c) (link head at_ : Nat) (hv0 : link = 0 ∨ VL σ link) (hv : VL σ at_) (hm : A.mp = 0) (hp : PoolOk σ) (hcnt : σ.count < 4000000000000000000)
    (b0 b1 b2 b3 b4 b5 : Nat) (B0 : Box A.L w b0 (.pointer (some ⟨A.be, 0, none⟩))) (B1 : Box A.L w b1 (.pointer (some ⟨A.bt s, 0, none⟩))) (B2 : Box A.L w b2 (.pointer (some ⟨A.bc s, 0, none⟩))) (B3 : Box A.L w b3 (.int .u64 (link : Int))) (B4 : Box A.L w b4 (.int .u64 (head : Int))) (B5 : Box A.L w b5 (.int .u64 (at_ : Int))) :
    Calls Tryz.prog 167 #[.pointer (some ⟨b0, 0, none⟩), .pointer (some ⟨b1, 0, none⟩), .pointer (some ⟨b2, 0, none⟩), .pointer (some ⟨b3, 0, none⟩), .pointer (some ⟨b4, 0, none⟩), .pointer (some ⟨b5, 0, none⟩)] w (Ran A w s (σ.run s (.next link head at_))) := by
  have c0 := B0.cell
  have c1 := B1.cell
  have c2 := B2.cell
  have c3 := B3.cell
  have c4 := B4.cell
  have c5 := B5.cell
  have hsl := hR.sl
  have e2 : w.cell? ⟨A.be, 2, none⟩ = some (.pointer (some ⟨A.ba, 0, none⟩)) := hR.eng 2 rfl
  have HS := Lib.hid (slot_at at_ 2 2 rfl hv.lo (by have := hv.hi; omega) hv.u (by omega))
  have HL := Lib.hid (load_any hR.drew (wslot at_ 2) (wslot_lt hR hv.lo hv.hi (by omega)) hcnt)
  have HG : Hid (Grow A.L w A.L w.drew) := Grow.drew _ _
  have HK : Hid (∀ w', Kp A w w' → w'.cell? ⟨b0, 0, none⟩ = some (.pointer (some ⟨A.be, 0, none⟩)) ∧ w'.cell? ⟨b1, 0, none⟩ = some (.pointer (some ⟨A.bt s, 0, none⟩)) ∧ w'.cell? ⟨b2, 0, none⟩ = some (.pointer (some ⟨A.bc s, 0, none⟩)) ∧ w'.cell? ⟨b3, 0, none⟩ = some (.int .u64 (link : Int)) ∧ w'.cell? ⟨b4, 0, none⟩ = some (.int .u64 (head : Int)) ∧ w'.cell? ⟨b5, 0, none⟩ = some (.int .u64 (at_ : Int)) ∧ w'.cell? ⟨A.be, 2, none⟩ = some (.pointer (some ⟨A.ba, 0, none⟩))) := by
    obtain ⟨_, x0⟩ := B0
    obtain ⟨_, x1⟩ := B1
    obtain ⟨_, x2⟩ := B2
    obtain ⟨_, x3⟩ := B3
    obtain ⟨_, x4⟩ := B4
    obtain ⟨_, x5⟩ := B5
    exact fun w' k => ⟨k.fix _ _ _ x0.1 c0, k.fix _ _ _ x1.1 c1, k.fix _ _ _ x2.1 c2, k.fix _ _ _ x3.1 c3, k.fix _ _ _ x4.1 c4, k.fix _ _ _ x5.1 c5, k.ea⟩
  have hrun : σ.run s (.next link head at_) = ((σ.tick.freeK s link head (σ.word (wslot at_ 2))).1, some (σ.tick.freeK s link head (σ.word (wslot at_ 2))).2) := rfl
  rw [hrun]
  have HB : Hid (∀ w1, Rep A σ.tick w1 → Calls Tryz.prog 147 #[.pointer (some ⟨A.be, 0, none⟩), .pointer (some ⟨A.bt s, 0, none⟩), .pointer (some ⟨A.bc s, 0, none⟩), .int .u64 (link : Int), .int .u64 (head : Int), .int .u64 (σ.word (wslot at_ 2) : Int)] w1 (Tells A w1 s (σ.tick.freeK s link head (σ.word (wslot at_ 2))))) :=
    fun w1 q1 => free_any q1 s c hc link _ _ (hv0.imp id fun h => ⟨h.lo, h.hi, h.u⟩) hm hp.n (PoolOk.list (σ := σ.tick) ⟨hp.n, hp.free, hp.tag, hp.worn⟩) hp.tag
  clear hR hc hv0 hv hm hp hcnt B0 B1 B2 B3 B4 B5 hrun hsl
  go_enter Tryz.func167, Tryz.ntmps167
  go_wp2_with fail
  go_region_held3 (fun w' => w'.cell? ⟨b0, 0, none⟩ = some (.pointer (some ⟨A.be, 0, none⟩)) ∧ w'.cell? ⟨b1, 0, none⟩ = some (.pointer (some ⟨A.bt s, 0, none⟩)) ∧ w'.cell? ⟨b2, 0, none⟩ = some (.pointer (some ⟨A.bc s, 0, none⟩)) ∧ w'.cell? ⟨b3, 0, none⟩ = some (.int .u64 (link : Int)) ∧ w'.cell? ⟨b4, 0, none⟩ = some (.int .u64 (head : Int)) ∧ w'.cell? ⟨b5, 0, none⟩ = some (.int .u64 (at_ : Int)) ∧ w'.cell? ⟨A.be, 2, none⟩ = some (.pointer (some ⟨A.ba, 0, none⟩)))
    (first | exact ⟨c0, c1, c2, c3, c4, c5, e2⟩ | assumption | exact HK.out _ (Kp.of (by assumption) (by assumption) (by assumption)))
    (first | (go_at_call 58; refine (HS.out _).mono ?_; rintro e w' ⟨rfl, rfl⟩) | (go_at_call 66; refine HL.out.mono ?_; rintro e w1 ⟨rfl, q1, q2⟩; have q4 := HG.out.trans q2; have q3 := Stay.refl A s; clear q2) | (go_at_call 147; refine (HB.out _ (by assumption)).mono ?_; rintro e w2 ⟨A', v, rfl, p1, p2, p3, p4⟩; have p5 := (‹Grow A.L w A.L _›).trans p2))
  go_wp2_with fail
  go_ret
  exact ⟨A', _, rfl, p1, p5, p3, p4⟩
end Go.Proofs.YtdgombgcjeelpaaGreat.Em

namespace Go.Proofs.YtdgombgcjeelpaaGreat.Em
open Go.ChangeShapes Go.WideShapes Go.ChangeAt Go.RowKit En
set_option linter.unusedVariables false
set_option linter.unusedSimpArgs false
set_option maxRecDepth 100000
set_option maxHeartbeats 1600000

theorem sessionOk (s : Nat) (hs : s < 8) (w : World) : Calls Tryz.prog 43 #[.int .i64 (s : Int)] w fun e w' => e = .returned (.bool true) ∧ w = w' := by
  have h1 : (0 : Int) ≤ (s : Int) := by omega
  have h2 : (s : Int) < 8 := by omega
  have h3 : decide ((0 : Int) ≤ (s : Int)) = true := by simp
  have h4 : decide ((s : Int) < 8) = true := by simp; omega
  have h5 : (s < 8) = True := by simpa using hs
  go_enter Tryz.func43, Tryz.ntmps43
  go_wp2
  go_ret
  exact ⟨rfl, rfl⟩
/-- An engine between its calls. -/
structure Live (A : Book) (σ : St) (w : World) : Prop where
  rep : Rep A σ w
  mp : A.mp = 0
  mt : ∀ s, A.mt s = 0
  call : ∀ s, s < 8 → ∀ c, σ.calls.getD s none = some c → A.vcall s = ptr (A.bc s) ∧ ∃ k, c.k = some k ∧ KRep (kp A σ s) A.L w (A.vnext s) k
  idle : ∀ s, s < 8 → σ.calls.getD s none = none → A.vcall s = .pointer none
/-- What of the book stays, but for a session. -/
structure StayQ (A A' : Book) (s : Nat) : Prop where
  be : A'.be = A.be
  mp : A'.mp = A.mp
  mt : A'.mt = A.mt
  bt : ∀ q, q ≠ s → A'.bt q = A.bt q
  bc : ∀ q, q ≠ s → A'.bc q = A.bc q
  bx : ∀ q, q ≠ s → A'.bx q = A.bx q
  vpairs : ∀ q, q ≠ s → A'.vpairs q = A.vpairs q
  vnext : ∀ q, q ≠ s → A'.vnext q = A.vnext q
  vcall : ∀ q, q ≠ s → A'.vcall q = A.vcall q
theorem Live.of {A A' : Book} {σ σ' : St} {w w' : World} {s : Nat} (hL : Live A σ w) (r : Rep A' σ' w') (g : Grow A.L w A'.L w') (st : StayQ A A' s) (hq : ∀ q, q ≠ s → σ'.calls.getD q none = σ.calls.getD q none)
    (h1 : ∀ c, σ'.calls.getD s none = some c → A'.vcall s = ptr (A'.bc s) ∧ ∃ k, c.k = some k ∧ KRep (kp A' σ' s) A'.L w' (A'.vnext s) k) (h2 : σ'.calls.getD s none = none → A'.vcall s = .pointer none) : Live A' σ' w' := by
  refine ⟨r, st.mp.trans hL.mp, fun q => by rw [st.mt]; exact hL.mt q, fun q hq8 c hc => ?_, fun q hq8 hc => ?_⟩
  · by_cases h : q = s
    · subst h; exact h1 c hc
    · have hc0 := (hq q h).symm.trans hc
      obtain ⟨e1, k, e2, e3⟩ := hL.call q hq8 c hc0
      have ek : kp A' σ' q = kp A σ q := by
        unfold kp
        rw [st.be, st.bt q h, st.bc q h, st.bx q h, st.vpairs q h, call_get hc, call_get hc0]
      refine ⟨by rw [st.vcall q h, st.bc q h]; exact e1, k, e2, ?_⟩
      rw [ek, st.vnext q h]
      exact e3.grow g
  · by_cases h : q = s
    · subst h; exact h2 hc
    · rw [st.vcall q h]
      exact hL.idle q hq8 ((hq q h).symm.trans hc)
/-- A step's closure can be called. -/
theorem KRep.enter {p : KP} {L : Lab} {w : World} {v : Value} {k : K} (h : KRep p L w v k) : ∃ f b c, v = .func (.func f) b c ∧ ∀ args w, (callFunc f args).run Tryz.prog w = .ok (.enter f args) w := by
  cases k <;> first
    | (obtain ⟨b0, e, _⟩ := h; exact ⟨_, _, _, e, fun args w => by kernel_rfl⟩)
    | (obtain ⟨b0, b1, e, _⟩ := h; exact ⟨_, _, _, e, fun args w => by kernel_rfl⟩)
    | (obtain ⟨b0, b1, b2, e, _⟩ := h; exact ⟨_, _, _, e, fun args w => by kernel_rfl⟩)
    | (obtain ⟨b0, b1, b2, b3, e, _⟩ := h; exact ⟨_, _, _, e, fun args w => by kernel_rfl⟩)
    | (obtain ⟨b0, b1, b2, b3, b4, e, _⟩ := h; exact ⟨_, _, _, e, fun args w => by kernel_rfl⟩)
    | (obtain ⟨b0, b1, b2, b3, b4, b5, e, _⟩ := h; exact ⟨_, _, _, e, fun args w => by kernel_rfl⟩)
    | (rename_i l r; cases l
       · obtain ⟨b0, b1, b2, b3, e, _⟩ := h; exact ⟨_, _, _, e, fun args w => by kernel_rfl⟩
       · obtain ⟨b0, b1, b2, b3, b4, e, _⟩ := h; exact ⟨_, _, _, e, fun args w => by kernel_rfl⟩)
/-- What a step answers. -/
def Stepped (A : Book) (w : World) (σ' : St) (kind : Int) (r : Res) : Ending → World → Prop := fun e w' => ∃ A' vp, e = .returned (.tuple #[.agg #[.int .i64 kind, .int .i64 (r.e : Int), .int .i64 (r.value : Int), vp, .int .i64 (r.over : Int), .int .i64 (r.reason : Int)], .int .i64 0]) ∧ FRow A'.L w' 2 vp (pairCs r.pairs) ∧ Live A' σ' w' ∧ Grow A.L w A'.L w' ∧ A'.be = A.be
/-- What a step's closure does. -/
def RunsTo (σ1 : St) (s : Nat) (k : K) : Prop := ∀ A w1 f b c, Rep A σ1 w1 → A.mp = 0 → A.mt s = 0 → KRep (kp A σ1 s) A.L w1 (.func (.func f) b c) k → Calls Tryz.prog f (b ++ c) w1 (Ran A w1 s (σ1.run s k))
theorem step_go {A : Book} {σ : St} {w : World} (hL : Live A σ w) (s : Nat) (hs : s < 8) (t : Txn) (ht : σ.txns.getD s none = some t) (c : Cal) (hc : σ.calls.getD s none = some c) (k : K) (hk : c.k = some k) (hcnt : σ.count < 3000000000000000000) (σ2 : St) (ok : Option K) (hrun : (σ.setC s { c with waits := false }).run s k = (σ2, ok)) (HS : RunsTo (σ.setC s { c with waits := false }) s k) (c2 : Cal) (hc2 : σ2.calls.getD s none = some c2) (dl : Nat) (hdl : σ2.count = σ.count + dl) (hd1 : dl < 1000000) (hlk : σ2.looks < 1000000000000000000) (hcq : ∀ q, q ≠ s → σ2.calls.getD q none = σ.calls.getD q none) (k' : K) (hok : ok = some k') (hov : c2.over = false) :
    Calls Tryz.prog 19 #[.pointer (some ⟨A.be, 0, none⟩), .int .i64 (s : Int)] w (Stepped A w ({ σ2.setC s { c2 with k := ok } with looks := σ2.looks + dl }) (if c2.waits then 2 else 1) {}) := by
  obtain ⟨Q, hQ⟩ : ∃ Q, Q = Stepped A w ({ σ2.setC s { c2 with k := ok } with looks := σ2.looks + dl }) (if c2.waits then 2 else 1) {} := ⟨_, rfl⟩
  rw [← hQ]
  have HQ := Lib.hid hQ
  clear hQ
  obtain ⟨r0, g0, fl, fh⟩ := hL.rep.newTmp (.cells #[.int .i64 0, .int .i64 0, .int .i64 0, .slice none 0 0, .int .i64 0, .int .i64 0] 44)
  obtain ⟨hvc, k0, hk0, hkr⟩ := hL.call s hs c hc
  obtain rfl : k = k0 := by rw [hk] at hk0; exact Option.some.inj hk0
  obtain ⟨fv, fb, fc, hvn, hent⟩ := hkr.enter
  have hsok := Lib.hid (sessionOk s hs)
  have b1 : (s : Int) < 8 := by omega
  have b0 : (0 : Int) ≤ (s : Int) := by omega
  have v0 : (w.alloc (.cells #[.int .i64 0, .int .i64 0, .int .i64 0, .slice none 0 0, .int .i64 0, .int .i64 0] 44)).cell? ⟨A.be, 13 + s, none⟩ = some (.pointer (some ⟨A.bc s, 0, none⟩)) := by rw [← show A.vcall s = .pointer (some ⟨A.bc s, 0, none⟩) from hvc]; exact r0.eng (13 + s) (engCs_call (A.tmp w.heap.size) σ hs)
  have v1 : (w.alloc (.cells #[.int .i64 0, .int .i64 0, .int .i64 0, .slice none 0 0, .int .i64 0, .int .i64 0] 44)).cell? ⟨A.be, 5 + s, none⟩ = some (.pointer (some ⟨A.bt s, 0, none⟩)) := by
    have h := r0.eng (5 + s) (engCs_txn (A.tmp w.heap.size) σ hs)
    have e : (A.tmp w.heap.size).tp σ s = .pointer (some ⟨A.bt s, 0, none⟩) := by unfold Book.tp; rw [ht]; rfl
    rw [e] at h; exact h
  obtain ⟨σ1, hσ1⟩ : ∃ σ1, σ1 = σ.setC s { c with waits := false } := ⟨_, rfl⟩
  rw [← hσ1] at hrun HS
  have hc1 : σ1.calls.getD s none = some { c with waits := false } := by rw [hσ1, getC_set (lt_of_call hc), if_pos rfl]
  have hkp : kp A σ1 s = kp A σ s := by unfold kp; rw [call_get hc1, call_get hc]
  -- behind the draws: the first store
  have H5 : Hid (∀ n w5, (w.alloc (.cells #[.int .i64 0, .int .i64 0, .int .i64 0, .slice none 0 0, .int .i64 0, .int .i64 0] 44)).drewN n = w5 → w5.cell? ⟨A.bc s, 10, none⟩ = some (.bool c.waits) ∧ w5.frozen? ⟨A.bc s, 10, none⟩ = false ∧ ∀ w6, w5.setCell ⟨A.bc s, 10, none⟩ (.bool false) = w6 → w6.cell? ⟨A.be, 2, none⟩ = some (.pointer (some ⟨A.ba, 0, none⟩)) ∧ w6.cell? ⟨A.bc s, 4, none⟩ = some (.func (.func fv) fb fc) ∧ Calls Tryz.prog 47 #[.pointer (some ⟨A.ba, 0, none⟩)] w6 (fun e w' => e = .returned (.int .i64 (σ.count : Int)) ∧ w6 = w') ∧ Calls Tryz.prog fv (fb ++ fc) w6 (Ran (A.tmp w.heap.size) w6 s (σ2, ok)) ∧ Grow A.L w (A.tmp w.heap.size).L w6 ∧ ((A.tmp w.heap.size).L w.heap.size = some .tmp ∧ w6.heap[w.heap.size]? = some (.cells #[.int .i64 0, .int .i64 0, .int .i64 0, .slice none 0 0, .int .i64 0, .int .i64 0] 44))) := by
    rintro n w5 rfl
    have r5 := r0.drewN n
    refine ⟨r5.call hc 10 rfl, r5.callF hc 10, ?_⟩
    rintro w6 rfl
    obtain ⟨r6, g6⟩ := r5.setCall hc { c with waits := false } 10 (.bool false) rfl rfl
    have g56 := (Grow.drewN (A.tmp w.heap.size).L (w.alloc (.cells #[.int .i64 0, .int .i64 0, .int .i64 0, .slice none 0 0, .int .i64 0, .int .i64 0] 44)) n).trans g6
    have gg := g0.trans g56
    rw [← hσ1] at r6
    have h4 : _ = some (A.vnext s) := r6.call hc1 4 rfl
    rw [hvn] at h4
    have h4' : (((w.alloc (.cells #[.int .i64 0, .int .i64 0, .int .i64 0, .slice none 0 0, .int .i64 0, .int .i64 0] 44)).drewN n).setCell ⟨A.bc s, 10, none⟩ (.bool false)).cell? ⟨A.bc s, 4, none⟩ = some (.func (.func fv) fb fc) := h4
    have hk6 := (hkr.grow gg)
    rw [hvn, ← hkp] at hk6
    have hS := HS (A.tmp w.heap.size) _ fv fb fc r6 hL.mp (hL.mt s) hk6
    rw [hrun] at hS
    have hcn := count_any r6 (by rw [hσ1]; exact Nat.lt_trans hcnt (by decide))
    have hcc : σ1.count = σ.count := by rw [hσ1]; rfl
    rw [hcc] at hcn
    exact ⟨r6.eng 2 rfl, h4', hcn, hS, gg, tmp_grow ⟨fl, fh⟩ g56⟩
  have HL0 := Lib.hid hL
  have HF := Lib.hid (And.intro hc2 (And.intro hdl (And.intro hcq (And.intro hs hlk))))
  have n1 : IntKind.i64.wrap (((σ.count + dl : Nat) : Int) - (σ.count : Int)) = (dl : Int) := by rw [IntKind.wrap_i64]; omega
  have n2 : IntKind.i64.wrap ((σ2.looks : Int) + (dl : Int)) = ((σ2.looks + dl : Nat) : Int) := by rw [IntKind.wrap_i64]; omega
  -- behind the closure: the next step is laid; the looks are counted
  have H7 : Hid (∀ A2 w2 v A3, A3 = { A2 with vnext := upF A2.vnext s v } → Rep A2 σ2 w2 → Stay (A.tmp w.heap.size) A2 s → w2.cell? ⟨A.bc s, 4, none⟩ = some (A2.vnext s) ∧ w2.frozen? ⟨A.bc s, 4, none⟩ = false ∧ ∀ w3, w2.setCell ⟨A.bc s, 4, none⟩ v = w3 → w3.cell? ⟨A.be, 23, none⟩ = some (.int .i64 (σ2.looks : Int)) ∧ w3.frozen? ⟨A.be, 23, none⟩ = false ∧ w3.cell? ⟨A.be, 2, none⟩ = some (.pointer (some ⟨A.ba, 0, none⟩)) ∧ Calls Tryz.prog 47 #[.pointer (some ⟨A.ba, 0, none⟩)] w3.drew (fun e w' => e = .returned (.int .i64 ((σ.count + dl : Nat) : Int)) ∧ w' = w3.drew) ∧
      ∀ w4, w3.drew.setCell ⟨A.be, 23, none⟩ (.int .i64 ((σ2.looks + dl : Nat) : Int)) = w4 → Rep A3 ({ σ2.setC s { c2 with k := ok } with looks := σ2.looks + dl }) w4 ∧ Grow A2.L w2 A2.L w4 ∧ w4.cell? ⟨A.bc s, 10, none⟩ = some (.bool c2.waits) ∧ w4.cell? ⟨A.bc s, 11, none⟩ = some (.bool c2.over)) := by
    intro A2 w2 v A3 hA3 q st
    have ebc : A2.bc = A.bc := st.bc
    have ebe : A2.be = A.be := st.be
    have eba : A2.ba = A.ba := st.ba
    have x4 := q.call hc2 4 (v := A2.vnext s) rfl
    have z4 := q.callF hc2 4
    rw [ebc] at x4 z4
    refine ⟨x4, z4, ?_⟩
    rintro w3 rfl
    obtain ⟨r3, g3⟩ := q.nextSet hc2 v ok
    rw [← hA3, ebc] at r3
    rw [ebc] at g3
    have e3 : A3.be = A.be := by rw [hA3]; exact ebe
    have e3a : A3.ba = A.ba := by rw [hA3]; exact eba
    have e3c : A3.bc = A.bc := by rw [hA3]; exact ebc
    have e3L : A3.L = A2.L := by rw [hA3]
    have y23 := r3.eng 23 (v := .int .i64 (σ2.looks : Int)) rfl
    have z23 := r3.engF 23
    have y2 := r3.eng 2 (v := .pointer (some ⟨A3.ba, 0, none⟩)) rfl
    have hcn := flip (count_any r3.drew (by show σ2.count < _; omega))
    rw [e3] at y23 z23 y2
    rw [e3a] at hcn y2
    rw [show (σ2.setC s { c2 with k := ok }).count = σ.count + dl from hdl] at hcn
    refine ⟨y23, z23, y2, hcn, ?_⟩
    intro w4 hw4
    obtain ⟨r4, g4⟩ := r3.drew.looksSet (σ2.looks + dl)
    rw [e3, hw4] at r4 g4
    rw [e3L] at g4
    have hc4 : ({ σ2.setC s { c2 with k := ok } with looks := σ2.looks + dl } : St).calls.getD s none = some { c2 with k := ok } := by show (σ2.setC s { c2 with k := ok }).calls.getD s none = _; rw [getC_set (lt_of_call hc2), if_pos rfl]
    have a10 := r4.call hc4 10 (v := .bool c2.waits) rfl
    have a11 := r4.call hc4 11 (v := .bool c2.over) rfl
    rw [e3c] at a10 a11
    exact ⟨r4, (g3.trans (Grow.drew _ _)).trans g4, a10, a11⟩
  have hwx : (w.alloc (.cells #[.int .i64 0, .int .i64 0, .int .i64 0, .slice none 0 0, .int .i64 0, .int .i64 0] 44)).cell? ⟨A.bc s, 10, none⟩ = some (.bool c.waits) := r0.call hc 10 rfl
  have HVC := Lib.hid hvc
  clear hL ht hc hk hcnt hrun HS hc2 hdl hd1 hlk hcq r0 g0 fl fh hvc hk0 hkr hvn hσ1 hc1 hkp hs
  generalize (σ.count : Int) = ca at *
  generalize ((σ.count + dl : Nat) : Int) = cb at *
  generalize ((σ2.looks + dl : Nat) : Int) = lb at *
  go_enter Tryz.func19, Tryz.ntmps19
  go_wp2_with (go_at_call 43; refine (hsok.out _).mono ?_; rintro e w' ⟨rfl, rfl⟩)
  generalize hw0 : w.alloc _ = w0 at *
  go_quiet (fail)
  generalize hw5 : w0.drewN _ = w5
  obtain ⟨x10, z10, h6⟩ := H5.out _ w5 hw5
  obtain ⟨y2, y4, hcn, hS, gg, fD⟩ := h6 _ rfl
  have HC := Lib.hid hcn
  have HX := Lib.hid (And.intro hS (And.intro gg fD))
  clear hcn hS gg fD h6 hw5 hw0 H5 v0 v1 hwx
  go_wp2_with (go_at_call 47; refine HC.out.mono ?_; rintro e w' ⟨rfl, rfl⟩)
  refine HX.out.1.mono ?_
  rintro e w2 ⟨A2, v, rfl, q1, q2, q3, q4⟩
  subst hok
  obtain ⟨f2, u2, u3, rfl, hent2⟩ := KRep.enter q4
  obtain ⟨x4, z4, h3⟩ := H7.out A2 w2 (.func (.func f2) u2 u3) _ rfl q1 q3
  obtain ⟨y23, z23, y2', hcn, h4⟩ := h3 _ rfl
  have HC2 := Lib.hid hcn
  have HX2 := Lib.hid (And.intro q1 (And.intro q2 (And.intro q3 (And.intro q4 h4))))
  clear hcn h3 h4 q1 q2 q3 q4 H7 x10 z10 y2 y4
  go_wp2_with fail
  generalize hw3 : w2.setCell ⟨A.bc s, 4, none⟩ (.func (.func f2) u2 u3) = w3 at *
  refine wp_region_still_tail 14 (by kernel_rfl) (by kernel_rfl) ?_
  simp only [List.take_succ_cons, List.take_zero, List.drop_succ_cons, List.drop_zero]
  repeat still_step
  still_call HC2.out
  repeat still_step
  refine wpStill_nil ?_
  change wpList _ _ _ _ _ w3.drew
  have y23d : w3.drew.cell? ⟨A.be, 23, none⟩ = some (.int .i64 (σ2.looks : Int)) := y23
  have z23d : w3.drew.frozen? ⟨A.be, 23, none⟩ = false := z23
  generalize w3.drew = wd at *
  obtain ⟨r4, g4, a10, a11⟩ := HX2.out.2.2.2.2 _ rfl
  have fD := tmp_grow (tmp_grow HX.out.2.2 HX2.out.2.1) g4
  have HTH := Lib.hid (there_of fD.2)
  have HY := Lib.hid (And.intro r4 (And.intro g4 fD))
  have HOV := Lib.hid hov
  rw [hov] at a11
  clear r4 g4 fD hov
  cases hwt : c2.waits
  · rw [hwt] at a10
    have HWT := Lib.hid hwt
    clear hwt
    go_wp2_with (refine wpList_store_mid rfl 44 (.tmp 4) (.tmp 77) rfl w.heap.size 0 #[.int .i64 1, .int .i64 0, .int .i64 0, .slice none 0 0, .int .i64 0, .int .i64 0] rfl rfl HTH.out (by kernel_rfl) (by simp [Value.oneCell']) ?_; generalize hws : World.setCells _ _ _ _ = ws)
    have hbut := But.setCells w.heap.size [.int .i64 1, .int .i64 0, .int .i64 0, .slice none 0 0, .int .i64 0, .int .i64 0] 0 (wd.setCell ⟨A.be, 23, none⟩ (.int .i64 lb))
    have hfin := heap_setCells6 HY.out.2.2.2 (.int .i64 1) (.int .i64 0) (.int .i64 0) (.slice none 0 0) (.int .i64 0) (.int .i64 0)
    rw [show (wd.setCell ⟨A.be, 23, none⟩ (.int .i64 lb)).setCells w.heap.size 0 [.int .i64 1, .int .i64 0, .int .i64 0, .slice none 0 0, .int .i64 0, .int .i64 0] = ws from hws] at hbut hfin
    (try simp only [Exit.inBlock, Exit.then])
    refine bodyPost_ret (results_cell_tmp_row rfl _ _ w.heap.size 44 #[.int .i64 1, .int .i64 0, .int .i64 0, .slice none 0 0, .int .i64 0, .int .i64 0] _ _ rfl hfin Tryz.underlying44 rfl (by kernel_rfl)) rfl ?_
    have hkd : (if c2.waits then (2 : Int) else 1) = 1 := by rw [HWT.out]; rfl
    rw [HQ.out, hkd]
    obtain ⟨hc2, hdl, hcq, hs, _⟩ := HF.out
    obtain ⟨q1, q2, q3, q4, _⟩ := HX2.out
    obtain ⟨r4, g4, fD⟩ := HY.out
    have r5 := r4.but fD.1 hbut
    have gg := (((HX.out.2.1.trans q2).trans g4).but (Nat.le_refl _) hbut)
    have hc' : ({ σ2.setC s { c2 with k := some k' } with looks := σ2.looks + dl } : St).calls.getD s none = some { c2 with k := some k' } := by show (σ2.setC s { c2 with k := some k' }).calls.getD s none = _; rw [getC_set (lt_of_call hc2), if_pos rfl]
    refine ⟨{ A2 with vnext := upF A2.vnext s (.func (.func f2) u2 u3) }, .slice none 0 0, rfl, FRow.nil _ _ _, Live.of (s := s) HL0.out r5 gg ⟨q3.be, q3.mp, q3.mt, fun q _ => by rw [show ({ A2 with vnext := _ } : Book).bt = A.bt from q3.bt], fun q _ => by rw [show ({ A2 with vnext := _ } : Book).bc = A.bc from q3.bc], q3.bx, q3.vpairs, fun q hq => (upF_other _ _ hq).trans (congrFun q3.vnext q), fun q _ => congrFun q3.vcall q⟩ (fun q hq => ?_) (fun c' hcc => ?_) (fun hnn => by have h0 := hc'.symm.trans hnn; cases h0), gg, q3.be⟩
    · show (σ2.setC s _).calls.getD q none = _
      rw [getC_set (lt_of_call hc2), if_neg hq]
      exact hcq q hq
    · obtain rfl : { c2 with k := some k' } = c' := Option.some.inj (hc'.symm.trans hcc)
      refine ⟨?_, k', rfl, ?_⟩
      · show A2.vcall s = ptr (A2.bc s)
        rw [q3.vcall, q3.bc]
        exact HVC.out
      · have ek : kp { A2 with vnext := upF A2.vnext s (.func (.func f2) u2 u3) } ({ σ2.setC s { c2 with k := some k' } with looks := σ2.looks + dl } : St) s = kp A2 σ2 s := by unfold kp; rw [call_get hc', call_get hc2]
        rw [ek, show ({ A2 with vnext := upF A2.vnext s (.func (.func f2) u2 u3) } : Book).vnext s = .func (.func f2) u2 u3 from upF_same _ _ _]
        exact (q4.grow g4).soft (hbut.soft fD.1)
  · rw [hwt] at a10
    have HWT := Lib.hid hwt
    clear hwt
    go_wp2_with (refine wpList_store_mid rfl 44 (.tmp 4) (.tmp 70) rfl w.heap.size 0 #[.int .i64 2, .int .i64 0, .int .i64 0, .slice none 0 0, .int .i64 0, .int .i64 0] rfl rfl HTH.out (by kernel_rfl) (by simp [Value.oneCell']) ?_; generalize hws : World.setCells _ _ _ _ = ws)
    have hbut := But.setCells w.heap.size [.int .i64 2, .int .i64 0, .int .i64 0, .slice none 0 0, .int .i64 0, .int .i64 0] 0 (wd.setCell ⟨A.be, 23, none⟩ (.int .i64 lb))
    have hfin := heap_setCells6 HY.out.2.2.2 (.int .i64 2) (.int .i64 0) (.int .i64 0) (.slice none 0 0) (.int .i64 0) (.int .i64 0)
    rw [show (wd.setCell ⟨A.be, 23, none⟩ (.int .i64 lb)).setCells w.heap.size 0 [.int .i64 2, .int .i64 0, .int .i64 0, .slice none 0 0, .int .i64 0, .int .i64 0] = ws from hws] at hbut hfin
    (try simp only [Exit.inBlock, Exit.then])
    refine bodyPost_ret (results_cell_tmp_row rfl _ _ w.heap.size 44 #[.int .i64 2, .int .i64 0, .int .i64 0, .slice none 0 0, .int .i64 0, .int .i64 0] _ _ rfl hfin Tryz.underlying44 rfl (by kernel_rfl)) rfl ?_
    have hkd : (if c2.waits then (2 : Int) else 1) = 2 := by rw [HWT.out]; rfl
    rw [HQ.out, hkd]
    obtain ⟨hc2, hdl, hcq, hs, _⟩ := HF.out
    obtain ⟨q1, q2, q3, q4, _⟩ := HX2.out
    obtain ⟨r4, g4, fD⟩ := HY.out
    have r5 := r4.but fD.1 hbut
    have gg := (((HX.out.2.1.trans q2).trans g4).but (Nat.le_refl _) hbut)
    have hc' : ({ σ2.setC s { c2 with k := some k' } with looks := σ2.looks + dl } : St).calls.getD s none = some { c2 with k := some k' } := by show (σ2.setC s { c2 with k := some k' }).calls.getD s none = _; rw [getC_set (lt_of_call hc2), if_pos rfl]
    refine ⟨{ A2 with vnext := upF A2.vnext s (.func (.func f2) u2 u3) }, .slice none 0 0, rfl, FRow.nil _ _ _, Live.of (s := s) HL0.out r5 gg ⟨q3.be, q3.mp, q3.mt, fun q _ => by rw [show ({ A2 with vnext := _ } : Book).bt = A.bt from q3.bt], fun q _ => by rw [show ({ A2 with vnext := _ } : Book).bc = A.bc from q3.bc], q3.bx, q3.vpairs, fun q hq => (upF_other _ _ hq).trans (congrFun q3.vnext q), fun q _ => congrFun q3.vcall q⟩ (fun q hq => ?_) (fun c' hcc => ?_) (fun hnn => by have h0 := hc'.symm.trans hnn; cases h0), gg, q3.be⟩
    · show (σ2.setC s _).calls.getD q none = _
      rw [getC_set (lt_of_call hc2), if_neg hq]
      exact hcq q hq
    · obtain rfl : { c2 with k := some k' } = c' := Option.some.inj (hc'.symm.trans hcc)
      refine ⟨?_, k', rfl, ?_⟩
      · show A2.vcall s = ptr (A2.bc s)
        rw [q3.vcall, q3.bc]
        exact HVC.out
      · have ek : kp { A2 with vnext := upF A2.vnext s (.func (.func f2) u2 u3) } ({ σ2.setC s { c2 with k := some k' } with looks := σ2.looks + dl } : St) s = kp A2 σ2 s := by unfold kp; rw [call_get hc', call_get hc2]
        rw [ek, show ({ A2 with vnext := upF A2.vnext s (.func (.func f2) u2 u3) } : Book).vnext s = .func (.func f2) u2 u3 from upF_same _ _ _]
        exact (q4.grow g4).soft (hbut.soft fD.1)
end Go.Proofs.YtdgombgcjeelpaaGreat.Em
