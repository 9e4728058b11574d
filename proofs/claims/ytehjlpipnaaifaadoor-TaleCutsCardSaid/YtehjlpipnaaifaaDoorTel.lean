/- The teller of a tale: its plain model, and how it lies in memory. -/
import Derived.Test.YtehjlpipnaaifaaDoorOwn
import Derived.Lib.SmallJoins
namespace Go.Proofs.YtehjlpipnaaifaaDoor.Tl
open Go.ChangeShapes Go.WideShapes Go.ChangeAt Go.RowKit
set_option linter.unusedVariables false

/-- What is known of a transaction so far. -/
structure Tx where
  fin : Nat
  st : Nat
  bonds : List Nat
  deriving DecidableEq, Repr
/-- An event, as far as the teller looks at it. -/
structure Ev where
  kind : Int
  t : Int
  n : Nat
  deriving DecidableEq, Repr
def getM (l : List Tx) (id : Int) : Option Nat :=
  if id < 1 ∨ (l.length : Int) < id then none else if (l[(id - 1).toNat]?.map (·.st)) = some 1 then some (id - 1).toNat else none
def bondM (l : List Tx) (i : Nat) (x : Tx) (n : Nat) : Option (List Tx) :=
  match l[n - 1]? with
  | none => none
  | some y => if n = 0 ∨ n = i + 1 then none else if y.st ≠ 4 ∧ (y.fin = 0 ∨ x.fin = 0 ∨ y.fin < x.fin) then some (l.set i { x with bonds := x.bonds ++ [n] }) else none
def takeM (l : List Tx) (last : Nat) (e : Ev) : Option (List Tx × Nat) :=
  if e.kind = 1 then (if e.t = (l.length : Int) + 1 ∧ last < e.n then some (l ++ [⟨0, 1, []⟩], e.n) else none)
  else match getM l e.t with
  | none => none
  | some i => match l[i]? with
    | none => none
    | some x =>
      if e.kind = 2 then (if x.fin = 0 then some (l, last) else none)
      else if e.kind = 3 then (if x.fin = 0 ∧ last < e.n then some (l.set i { x with fin := e.n }, e.n) else none)
      else if e.kind = 4 then (bondM l i x e.n).map fun l' => (l', last)
      else if e.kind = 5 then (if x.fin ≠ 0 ∧ (x.bonds.all fun b => (l[b - 1]?.map (·.st)) == some 3) then some (l.set i { x with st := 3 }, last) else none)
      else if e.kind = 6 then some (l.set i { x with st := 4 }, last)
      else none
/-- How far events may be: none: all of them. -/
def okM : List Tx → Nat → Nat → List Ev → Option Nat
  | _, _, _, [] => none
  | l, last, i, e :: r => match takeM l last e with
    | none => some i
    | some (l', last') => okM l' last' (i + 1) r

/-- A transaction with the block it lies in, and the slice of its bonds. -/
structure It where
  x : Tx
  p : Nat
  v : Value
def nums (l : List Nat) : List Value := l.map fun (b : Nat) => Value.int .i64 (b : Int)
def ptrs (l : List It) : List Value := l.map fun i => Value.pointer (some ⟨i.p, 0, none⟩)
def cellsX (i : It) : Array Value := #[.int .u64 (i.x.fin : Int), .int .i64 (i.x.st : Int), i.v]
structure ItOk (w : World) (base : Nat) (i : It) : Prop where
  hb : base ≤ i.p
  blk : w.heap[i.p]? = some (.cells (cellsX i) 73 (0, 0))
  own : w.ownsRow base 3 1 i.v i.x.bonds.length (nums i.x.bonds)
def Apart (i j : It) : Prop := i.p ≠ j.p ∧ ∀ g, i.v.ownBlock = some g → j.v.ownBlock ≠ some g
theorem Apart.symm {i j : It} (h : Apart i j) : Apart j i := ⟨fun e => h.1 e.symm, fun g e1 e2 => h.2 g e2 e1⟩
structure Tel (w : World) (base gt : Nat) (lv : Value) (its : List It) (last : Nat) : Prop where
  hb : base ≤ gt
  te : w.heap[gt]? = some (.cells #[lv, .int .u64 (last : Int)] 46 (0, 0))
  row : w.ownsRow base 71 1 lv its.length (ptrs its)
  all : ∀ i, i ∈ its → ItOk w base i
  ap : its.Pairwise Apart

theorem own_same {w w' : World} {base : Nat} {e : TypeId} {size : Nat} {v : Value} {n : Nat} {xs : List Value} (h : w.ownsRow base e size v n xs) (hs : ∀ g, v.ownBlock = some g → w'.heap[g]? = w.heap[g]?) : w'.ownsRow base e size v n xs := by
  refine ⟨h.1, ?_⟩
  rcases h.2 with h0 | ⟨g, cap, cur, rfl, h2, h3, h4⟩
  · exact .inl h0
  · exact .inr ⟨g, cap, cur, rfl, h2, by rw [hs g rfl]; exact h3, h4⟩
theorem own_blk {w : World} {base : Nat} {e : TypeId} {size : Nat} {v : Value} {n : Nat} {xs : List Value} (h : w.ownsRow base e size v n xs) {g : Nat} (hg : v.ownBlock = some g) : ∃ cur, w.heap[g]? = some (.cells cur e (0, 0)) := by
  rcases h.2 with ⟨rfl, _⟩ | ⟨g', cap, cur, rfl, h2, h3, h4⟩
  · cases hg
  · obtain rfl : g' = g := by simpa [Value.ownBlock] using hg
    exact ⟨cur, h3⟩
theorem ty_ne {w : World} {g h : Nat} {a b : Array Value} {s t : TypeId} {f f' : Nat × Nat} (h1 : w.heap[g]? = some (.cells a s f)) (h2 : w.heap[h]? = some (.cells b t f')) (hne : s ≠ t) : g ≠ h := by
  rintro rfl
  rw [h1] at h2
  injection h2 with h2
  injection h2 with _ h2 _
  exact hne h2
theorem lt_of {w : World} {g : Nat} {o : Obj} (h : w.heap[g]? = some o) : g < w.heap.size := (Array.getElem?_eq_some_iff.1 h).1

theorem Tel.below {w w' : World} {base gt : Nat} {lv : Value} {its : List It} {last : Nat} (h : Tel w base gt lv its last) (hb : Below w.heap.size w w') : Tel w' base gt lv its last := by
  refine ⟨h.hb, by rw [hb.block gt (lt_of h.te)]; exact h.te, Ow.own_below h.row hb, fun i hi => ?_, h.ap⟩
  have k := h.all i hi
  exact ⟨k.hb, by rw [hb.block i.p (lt_of k.blk)]; exact k.blk, Ow.own_below k.own hb⟩
theorem Tel.last {w : World} {base gt : Nat} {lv : Value} {its : List It} {last : Nat} (h : Tel w base gt lv its last) (n : Nat) : Tel (w.setCell ⟨gt, 1, none⟩ (.int .u64 (n : Int))) base gt lv its n := by
  have o : ∀ k, k ≠ gt → (w.setCell ⟨gt, 1, none⟩ (.int .u64 (n : Int))).heap[k]? = w.heap[k]? := fun k hk => heap_setCell_other w _ k _ hk
  refine ⟨h.hb, ?_, own_same h.row fun g hg => o g ?_, fun i hi => ?_, h.ap⟩
  · rw [heap_setCell_same w gt 1 _ _ _ h.te]; rfl
  · obtain ⟨cur, hc⟩ := own_blk h.row hg
    exact ty_ne hc h.te (by decide)
  · have k := h.all i hi
    refine ⟨k.hb, ?_, own_same k.own fun g hg => o g ?_⟩
    · rw [o _ (ty_ne k.blk h.te (by decide))]; exact k.blk
    · obtain ⟨cur, hc⟩ := own_blk k.own hg
      exact ty_ne hc h.te (by decide)
/-- One transaction's cells, and its bonds, turned. -/
theorem Tel.upd {w w' : World} {base gt : Nat} {lv : Value} {its : List It} {last : Nat} (h : Tel w base gt lv its last) (i : Nat) (a b : It) (hi : its[i]? = some a) (hp : b.p = a.p)
    (hk : ∀ k, k < w.heap.size → k ≠ a.p → some k ≠ a.v.ownBlock → w'.heap[k]? = w.heap[k]?) (hb : ItOk w' base b) (hv : b.v.ownBlock = a.v.ownBlock ∨ ∀ g, b.v.ownBlock = some g → w.heap.size ≤ g) :
    Tel w' base gt lv (its.set i b) last := by
  have ha := h.all a (List.mem_of_getElem? hi)
  have hil : i < its.length := (List.getElem?_eq_some_iff.1 hi).1
  have hia : its[i] = a := (List.getElem?_eq_some_iff.1 hi).2
  have nv : ∀ g, a.v.ownBlock = some g → ∃ cur, w.heap[g]? = some (.cells cur 3 (0, 0)) := fun g hg => own_blk ha.own hg
  have eqp : ptrs (its.set i b) = ptrs its := by
    unfold ptrs
    rw [List.map_set, hp]
    apply List.ext_getElem
    · simp
    · intro j h1 h2
      rw [List.getElem_set]
      split
      · rename_i e; subst e; simp [hia]
      · rfl
  have keep : ∀ c, c ∈ its → Apart a c → ItOk w' base c := by
    intro c hc hac
    have k := h.all c hc
    refine ⟨k.hb, ?_, own_same k.own fun g hg => ?_⟩
    · rw [hk _ (lt_of k.blk) (fun e => hac.1 e.symm) (fun e => ?_)]
      · exact k.blk
      · obtain ⟨cur, hcur⟩ := nv _ e.symm
        exact ty_ne k.blk hcur (by decide) rfl
    · obtain ⟨cur, hcur⟩ := own_blk k.own hg
      exact hk _ (lt_of hcur) (ty_ne hcur ha.blk (by decide)) (fun e => hac.2 g e.symm hg)
  have aps : ∀ j (hj : j < its.length), j ≠ i → Apart a its[j] := by
    intro j hj hne
    rcases Nat.lt_or_gt_of_ne hne with hlt | hgt
    · have := List.pairwise_iff_getElem.1 h.ap j i hj hil hlt
      rw [hia] at this
      exact this.symm
    · have := List.pairwise_iff_getElem.1 h.ap i j hil hj hgt
      rw [hia] at this
      exact this
  have apb : ∀ c, c ∈ its → Apart a c → Apart b c := by
    intro c hc hac
    refine ⟨by rw [hp]; exact hac.1, fun g hg hcg => ?_⟩
    rcases hv with hv | hv
    · exact hac.2 g (by rw [← hv]; exact hg) hcg
    · obtain ⟨cur, hcur⟩ := own_blk (h.all c hc).own hcg
      have := hv g hg
      have := lt_of hcur
      omega
  refine ⟨h.hb, ?_, ?_, ?_, ?_⟩
  · rw [hk _ (lt_of h.te) (ty_ne h.te ha.blk (by decide)) (fun e => ?_)]
    · exact h.te
    · obtain ⟨cur, hcur⟩ := nv _ e.symm
      exact ty_ne h.te hcur (by decide) rfl
  · rw [eqp, List.length_set]
    refine own_same h.row fun g hg => ?_
    obtain ⟨cur, hcur⟩ := own_blk h.row hg
    refine hk _ (lt_of hcur) (ty_ne hcur ha.blk (by decide)) (fun e => ?_)
    obtain ⟨cur', hcur'⟩ := nv _ e.symm
    exact ty_ne hcur hcur' (by decide) rfl
  · intro c hc
    obtain ⟨j, hj, rfl⟩ := List.getElem_of_mem hc
    rw [List.length_set] at hj
    rw [List.getElem_set]
    split
    · exact hb
    · rename_i hne
      exact keep _ (List.getElem_mem hj) (aps j hj (fun e => hne e.symm))
  · rw [List.pairwise_iff_getElem]
    intro j k hj hk' hlt
    rw [List.length_set] at hj hk'
    rw [List.getElem_set, List.getElem_set]
    split
    · rename_i e1
      rw [if_neg (by omega)]
      exact apb _ (List.getElem_mem hk') (aps k hk' (by omega))
    · split
      · exact (apb _ (List.getElem_mem hj) (aps j hj (by omega))).symm
      · exact List.pairwise_iff_getElem.1 h.ap j k hj hk' hlt
/-- One more transaction. -/
theorem Tel.push {w w' : World} {base gt : Nat} {lv lv' : Value} {its : List It} {last : Nat} (h : Tel w base gt lv its last) (b : It)
    (hte : w'.heap[gt]? = some (.cells #[lv', .int .u64 (last : Int)] 46 (0, 0)))
    (hrow : w'.ownsRow base 71 1 lv' (its.length + 1) (ptrs its ++ [.pointer (some ⟨b.p, 0, none⟩)]))
    (hk : ∀ k, k < w.heap.size → k ≠ gt → some k ≠ lv.ownBlock → w'.heap[k]? = w.heap[k]?) (hb : ItOk w' base b) (hp : w.heap.size ≤ b.p) (hv : b.v.ownBlock = none) :
    Tel w' base gt lv' (its ++ [b]) last := by
  have nr : ∀ g, lv.ownBlock = some g → ∃ cur, w.heap[g]? = some (.cells cur 71 (0, 0)) := fun g hg => own_blk h.row hg
  refine ⟨h.hb, hte, ?_, ?_, ?_⟩
  · unfold ptrs at *
    rw [List.map_append, List.length_append]
    exact hrow
  · intro c hc
    rcases List.mem_append.1 hc with hc | hc
    · have k := h.all c hc
      refine ⟨k.hb, ?_, own_same k.own fun g hg => ?_⟩
      · rw [hk _ (lt_of k.blk) (ty_ne k.blk h.te (by decide)) (fun e => ?_)]
        · exact k.blk
        · obtain ⟨cur, hcur⟩ := nr _ e.symm
          exact ty_ne k.blk hcur (by decide) rfl
      · obtain ⟨cur, hcur⟩ := own_blk k.own hg
        refine hk _ (lt_of hcur) (ty_ne hcur h.te (by decide)) (fun e => ?_)
        obtain ⟨cur', hcur'⟩ := nr _ e.symm
        exact ty_ne hcur hcur' (by decide) rfl
    · obtain rfl := List.mem_singleton.1 hc
      exact hb
  · rw [List.pairwise_append]
    refine ⟨h.ap, List.pairwise_singleton _ _, fun c hc d hd => ?_⟩
    obtain rfl := List.mem_singleton.1 hd
    refine ⟨?_, fun g hg hdg => ?_⟩
    · have := lt_of (h.all c hc).blk
      omega
    · rw [hv] at hdg; cases hdg
end Go.Proofs.YtehjlpipnaaifaaDoor.Tl
