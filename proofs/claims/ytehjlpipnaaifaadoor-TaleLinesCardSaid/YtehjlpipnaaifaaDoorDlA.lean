/- Deals in memory: a row of them, each with a row of its calls. -/
import Derived.Test.YtehjlpipnaaifaaDoorTxtC
namespace Go.Proofs.YtehjlpipnaaifaaDoor.Tl
open Go.ChangeShapes Go.WideShapes Go.ChangeAt Go.RowKit
set_option linter.unusedVariables false
set_option linter.unusedSimpArgs false
set_option maxRecDepth 100000
set_option maxHeartbeats 1000000

structure Dl where
  id : Int
  lv : Int
  st : Int
  bg : Int
  en : Int
  v : Value
def dC (d : Dl) : List Value := [.int .i64 d.id, .int .i64 d.lv, .int .i64 d.st, .int .u64 d.bg, .int .u64 d.en, d.v]
def flatD (ds : List Dl) : List Value := ds.flatMap dC
theorem flatD_len (ds : List Dl) : (flatD ds).length = ds.length * 6 := by
  induction ds with
  | nil => rfl
  | cons d r ih => unfold flatD at *; rw [List.flatMap_cons, List.length_append, ih]; simp [dC]; omega
theorem flatD_at : ∀ (ds : List Dl) (i : Nat) (d : Dl) (f : Nat), ds[i]? = some d → f < 6 → (flatD ds)[i * 6 + f]? = (dC d)[f]? := by
  intro ds
  induction ds with
  | nil => intro i d f h; cases h
  | cons c r ih =>
    intro i d f h hf
    show (dC c ++ flatD r)[i * 6 + f]? = _
    cases i with
    | zero =>
      obtain rfl : c = d := by simpa using h
      rw [Nat.zero_mul, Nat.zero_add, List.getElem?_append_left (by simpa [dC] using hf)]
    | succ i =>
      rw [List.getElem?_append_right (by simp [dC]; omega)]
      have : (i + 1) * 6 + f - (dC c).length = i * 6 + f := by simp [dC]; omega
      rw [this]
      exact ih i d f (by simpa using h) hf
theorem flatD_set : ∀ (ds : List Dl) (i : Nat) (d d' : Dl) (f : Nat) (u : Value), ds[i]? = some d → f < 6 → (dC d).set f u = dC d' → (flatD ds).set (i * 6 + f) u = flatD (ds.set i d') := by
  intro ds
  induction ds with
  | nil => intro i d d' f u h; cases h
  | cons c r ih =>
    intro i d d' f u h hf hu
    show (dC c ++ flatD r).set (i * 6 + f) u = _
    cases i with
    | zero =>
      obtain rfl : c = d := by simpa using h
      rw [Nat.zero_mul, Nat.zero_add, List.set_append_left _ _ (by simpa [dC] using hf), hu]
      rfl
    | succ i =>
      rw [List.set_append_right _ _ (by simp [dC]; omega)]
      have : (i + 1) * 6 + f - (dC c).length = i * 6 + f := by simp [dC]; omega
      rw [this, ih i d d' f u (by simpa using h) hf hu]
      rfl
def ApD (a b : Dl) : Prop := ∀ g, a.v.ownBlock = some g → b.v.ownBlock ≠ some g
theorem ApD.symm {a b : Dl} (h : ApD a b) : ApD b a := fun g e1 e2 => h g e2 e1
def OpsOk (w : World) (base m : Nat) (v : Value) : Prop := ∃ n xs, n ≤ m ∧ w.ownsRow base 67 9 v n xs
structure Dls (w : World) (base m : Nat) (v : Value) (ds : List Dl) : Prop where
  row : w.ownsRow base 64 6 v ds.length (flatD ds)
  ops : ∀ d, d ∈ ds → OpsOk w base m d.v
  ap : ds.Pairwise ApD
theorem OpsOk.below {w w1 : World} {base m : Nat} {v : Value} (h : OpsOk w base m v) (hb : Below w.heap.size w w1) : OpsOk w1 base m v := by
  obtain ⟨n, xs, h1, h2⟩ := h; exact ⟨n, xs, h1, Ow.own_below h2 hb⟩
theorem OpsOk.more {w : World} {base m : Nat} {v : Value} (h : OpsOk w base m v) : OpsOk w base (m + 1) v := by
  obtain ⟨n, xs, h1, h2⟩ := h; exact ⟨n, xs, by omega, h2⟩
theorem OpsOk.nil (w : World) (base m : Nat) : OpsOk w base m (.slice none 0 0) := ⟨0, [], Nat.zero_le _, World.ownsRow_nil _ _ _ _⟩
theorem Dls.below {w w1 : World} {base m : Nat} {v : Value} {ds : List Dl} (h : Dls w base m v ds) (hb : Below w.heap.size w w1) : Dls w1 base m v ds :=
  ⟨Ow.own_below h.row hb, fun d hd => (h.ops d hd).below hb, h.ap⟩
theorem Dls.more {w : World} {base m : Nat} {v : Value} {ds : List Dl} (h : Dls w base m v ds) : Dls w base (m + 1) v ds := ⟨h.row, fun d hd => (h.ops d hd).more, h.ap⟩
theorem Dls.nil (w : World) (base m : Nat) : Dls w base m (.slice none 0 0) [] := ⟨World.ownsRow_nil _ _ _ _, fun d hd => (by cases hd), List.Pairwise.nil⟩
theorem Dls.push {w w2 : World} {base m : Nat} {v v' : Value} {ds : List Dl} (h : Dls w base m v ds) (d : Dl) (hd : d.v = .slice none 0 0) {o : Obj}
    (hown : w2.ownsRow base 64 6 v' (ds.length + 1) (flatD ds ++ dC d)) (hg : (w.alloc o).grownBy w2 v.ownBlock) : Dls w2 base m v' (ds ++ [d]) := by
  refine ⟨?_, fun c hc => ?_, ?_⟩
  · rw [List.length_append, show flatD (ds ++ [d]) = flatD ds ++ dC d by simp [flatD]]; exact hown
  · rcases List.mem_append.1 hc with hc | hc
    · obtain ⟨n, xs, h1, h2⟩ := h.ops c hc
      refine ⟨n, xs, h1, own_same h2 fun g hg2 => ?_⟩
      obtain ⟨cur, hcur⟩ := own_blk h2 hg2
      rw [hg.block g (by have := lt_of hcur; simp; omega) (fun e => ?_), heap_alloc_old _ _ (lt_of hcur)]
      obtain ⟨cur', hcur'⟩ := own_blk h.row e.symm
      exact ty_ne hcur hcur' (by decide) rfl
    · obtain rfl := List.mem_singleton.1 hc
      rw [hd]; exact OpsOk.nil _ _ _
  · rw [List.pairwise_append]
    refine ⟨h.ap, List.pairwise_singleton _ _, fun a ha b hb => ?_⟩
    obtain rfl := List.mem_singleton.1 hb
    intro g _ e2
    rw [hd] at e2; cases e2
/-- One deal's cell is turned; its calls may have grown. -/
theorem Dls.upd {w w2 : World} {base m m' : Nat} {ds : List Dl} {g cap : Nat} (h : Dls w base m (.slice (some ⟨g, 0, none⟩) ds.length cap) ds) (hm : m ≤ m') (i : Nat) (d d' : Dl) (hd : ds[i]? = some d) (f : Nat) (hf : f < 6) (u : Value) (hu : (dC d).set f u = dC d')
    (hk : ∀ k, k < w.heap.size → some k ≠ d.v.ownBlock → w2.heap[k]? = w.heap[k]?) (hv : OpsOk w2 base m' d'.v) (hw : d'.v.ownBlock = d.v.ownBlock ∨ ∀ b, d'.v.ownBlock = some b → w.heap.size ≤ b) :
    Dls (w2.setCell ⟨g, i * 6 + f, none⟩ u) base m' (.slice (some ⟨g, 0, none⟩) ds.length cap) (ds.set i d') := by
  have hil : i < ds.length := (List.getElem?_eq_some_iff.1 hd).1
  have hdm := List.mem_of_getElem? hd
  have hde : ds[i] = d := (List.getElem?_eq_some_iff.1 hd).2
  obtain ⟨cur0, hcur0⟩ := own_blk h.row (g := g) rfl
  have hrow2 : w2.ownsRow base 64 6 (.slice (some ⟨g, 0, none⟩) ds.length cap) ds.length (flatD ds) := by
    refine own_same h.row fun b hb => ?_
    obtain ⟨cur, hcur⟩ := own_blk h.row hb
    refine hk b (lt_of hcur) (fun e => ?_)
    obtain ⟨n, xs, _, h2⟩ := h.ops d hdm
    obtain ⟨cur', hcur'⟩ := own_blk h2 e.symm
    exact ty_ne hcur hcur' (by decide) rfl
  obtain ⟨cur2, hcur2⟩ := own_blk hrow2 (g := g) rfl
  have aps : ∀ j (hj : j < ds.length), j ≠ i → ApD d ds[j] := by
    intro j hj hne
    rcases Nat.lt_or_gt_of_ne hne with hlt | hgt
    · have := List.pairwise_iff_getElem.1 h.ap j i hj hil hlt
      rw [hde] at this; exact this.symm
    · have := List.pairwise_iff_getElem.1 h.ap i j hil hj hgt
      rw [hde] at this; exact this
  have apb : ∀ c, c ∈ ds → ApD d c → ApD d' c := by
    intro c hc hac b hb hcb
    rcases hw with hw | hw
    · exact hac b (by rw [← hw]; exact hb) hcb
    · obtain ⟨n, xs, _, h2⟩ := h.ops c hc
      obtain ⟨cur, hcur⟩ := own_blk h2 hcb
      have := hw b hb
      have := lt_of hcur
      omega
  refine ⟨?_, fun c hc => ?_, ?_⟩
  · rw [← flatD_set ds i d d' f u hd hf hu, List.length_set]
    exact (hrow2.stored (i * 6 + f) u).1
  · obtain ⟨j, hj, rfl⟩ := List.getElem_of_mem hc
    rw [List.length_set] at hj
    rw [List.getElem_set]
    have keep : ∀ {m0 : Nat} {v0 : Value}, OpsOk w2 base m0 v0 → OpsOk (w2.setCell ⟨g, i * 6 + f, none⟩ u) base m0 v0 := by
      rintro m0 v0 ⟨n, xs, h1, h2⟩
      refine ⟨n, xs, h1, own_same h2 fun b hb => heap_setCell_other _ _ _ _ ?_⟩
      obtain ⟨cur, hcur⟩ := own_blk h2 hb
      exact ty_ne hcur hcur2 (by decide)
    split
    · exact keep hv
    · rename_i hne
      obtain ⟨n, xs, h1, h2⟩ := h.ops _ (List.getElem_mem hj)
      refine keep ⟨n, xs, by omega, own_same h2 fun b hb => ?_⟩
      obtain ⟨cur, hcur⟩ := own_blk h2 hb
      exact hk b (lt_of hcur) (fun e => aps j hj (fun e => hne e.symm) b e.symm hb)
  · rw [List.pairwise_iff_getElem]
    intro j k hj hk' hlt
    rw [List.length_set] at hj hk'
    rw [List.getElem_set, List.getElem_set]
    split
    · rename_i e1
      rw [if_neg (by omega)]
      exact apb _ (List.getElem_mem hk') (aps k hk' (by omega))
    · split
      · exact (apb _ (List.getElem_mem hj) (aps j hj (by omega))).symm
      · exact List.pairwise_iff_getElem.1 h.ap j k hj hk' hlt
theorem Dls.cell {w : World} {base m : Nat} {ds : List Dl} {g cap : Nat} (h : Dls w base m (.slice (some ⟨g, 0, none⟩) ds.length cap) ds) (i : Nat) (d : Dl) (hd : ds[i]? = some d) (f : Nat) (hf : f < 6) : w.cell? ⟨g, i * 6 + f, none⟩ = (dC d)[f]? := by
  have hil : i < ds.length := (List.getElem?_eq_some_iff.1 hd).1
  rw [h.row.cellAt _ (by omega), flatD_at ds i d f hd hf]
theorem Dls.form {w : World} {base m : Nat} {v : Value} {ds : List Dl} (h : Dls w base m v ds) (hne : 0 < ds.length) : ∃ g cap, v = .slice (some ⟨g, 0, none⟩) ds.length cap ∧ base ≤ g ∧ ds.length ≤ cap ∧ g < w.heap.size ∧ cap ≤ 9223372036854775807 ∧ ∀ j, w.frozen? ⟨g, j, none⟩ = false := by
  rcases h.row.2 with ⟨_, h0⟩ | ⟨g, cap, cur, h1, h2, h3, h4, h5, _⟩
  · omega
  · unfold maxLen at h5
    exact ⟨g, cap, h1, h2, h4, lt_of h3, h5, fun j => frozen_of_row w g j _ _ h3⟩

theorem infoD : (Tryd.prog.info? 64).map (fun i => (i.zero, i.size, i.bytes)) = some (some (.agg #[.int .i64 0, .int .i64 0, .int .i64 0, .int .u64 0, .int .u64 0, .slice none 0 0]), 6, 64) := by kernel_rfl
theorem append_D {ops : Array Oper} {rest : List Oper} {o : Oper} {a : Act} {Q : Exit → Act → World → Prop} (w : World) (hgd : o.guard = none) (s x : Operand)
    (ho : o.op = .call { callee := .builtin .append, args := #[s, x], argTypes := #[40, 40] })
    (base : Nat) (v : Value) (n : Nat) (xs : List Value) (hs : a.eval s = v) (hown : w.ownsRow base 64 6 v n xs)
    (ad : Addr) (c : Nat) (d : Dl) (hx : a.eval x = .slice (some ad) 1 c) (hd : d.v = .slice none 0 0) (hnews : ∀ j u, (dC d)[j]? = some u → w.cell? (ad.add j) = some u)
    (hn : n < 1000000) (hbase : base ≤ w.heap.size)
    (h : ∀ v' w', w'.ownsRow base 64 6 v' (n + 1) (xs ++ dC d) → w.grownBy w' v.ownBlock → wpList Tryd.prog ops Q rest (a.put o.dst v') w') : wpList Tryd.prog ops Q (o :: rest) a w := by
  obtain ⟨i0, hi, hz0, hz1, hz2⟩ := info_parts infoD
  exact wpList_append_own w hgd s x _ ho base _ i0 _ 6 64 Tryd.underlying40 hi hz0 hz1 hz2 rfl (by decide) v n xs hs hown ad 1 c (dC d) hx (by simp [dC]) hnews (fun u hu => by simp [dC, hd] at hu; rcases hu with rfl | rfl | rfl | rfl | rfl | rfl <;> rfl) (by unfold maxLen; omega) (by omega) hbase (fun v' w' h2 h3 _ => h v' w' h2 h3)
theorem infoC : (Tryd.prog.info? 67).map (fun i => (i.zero, i.size, i.bytes)) = some (some (.agg #[.int .i64 0, .int .i64 0, .int .i64 0, .int .i64 0, .int .i64 0, .int .i64 0, .slice none 0 0, .int .i64 0, .int .i64 0]), 9, 88) := by kernel_rfl
theorem wp_append_C {o : Oper} {a : Act} {K : Act → World → Prop} {Q : Exit → Act → World → Prop} (w : World) (s x : Operand)
    (ho : o.op = .call { callee := .builtin .append, args := #[s, x], argTypes := #[62, 62] })
    (base : Nat) (v : Value) (n : Nat) (xs : List Value) (hs : a.eval s = v) (hown : w.ownsRow base 67 9 v n xs)
    (ad : Addr) (c : Nat) (news : List Value) (hx : a.eval x = .slice (some ad) 1 c) (hl : news.length = 9) (hnews : ∀ j u, news[j]? = some u → w.cell? (ad.add j) = some u) (h1 : ∀ u ∈ news, u.oneCell' = true) (hn : n < 1000000) (hbase : base ≤ w.heap.size)
    (h : ∀ v' w', w'.ownsRow base 67 9 v' (n + 1) (xs ++ news) → w.grownBy w' v.ownBlock → (v'.ownBlock = v.ownBlock ∨ ∀ g, v'.ownBlock = some g → w.heap.size ≤ g) → K (a.put o.dst v') w') : o.wp Tryd.prog a w K Q := by
  obtain ⟨i0, hi, hz, hsize, hby⟩ := info_parts infoC
  have hl1 : news.length = 1 * 9 := by rw [hl]
  have h63 : n + 1 ≤ maxLen := by unfold maxLen; omega
  have hbytes : (n + 1) * 88 ≤ 140737488355328 := by omega
  obtain ⟨v', w', hr, h2, h3, _⟩ := run_append_own (P := Tryd.prog) w base 62 o.type _ i0 _ 9 88 Tryd.underlying62 hi hz hsize hby rfl (by decide) v n xs hown ad 1 c news hl1 hnews h1 h63 hbytes hbase
  have h4 := Ow.append_where (P := Tryd.prog) w base 62 o.type _ i0 _ 9 88 Tryd.underlying62 hi hz hsize hby rfl (by decide) v n xs hown ad 1 c (by omega) news hl1 hnews h1 h63 hbytes v' w' hr
  unfold Oper.wp execOp
  simp only [ho, resolve, invoke, builtin, Sem.run_bind, Sem.run_pure, Result.andThen_ok, List.map_toArray, List.map_cons, List.map_nil, hs, hx, hr]
  exact h v' w' h2 h3 h4
end Go.Proofs.YtehjlpipnaaifaaDoor.Tl
