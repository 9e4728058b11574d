/- Texts of this claim, laid together: Tk, Pu, Dr, Kb, Te. -/
import Derived.Test.YtbefcdjcefmicaaGreatBase5
import Derived.Test.YtbefcdjcefmicaaGreatBase6
import Derived.Test.YtbefcdjcefmicaaGreatBase4
namespace Go.Proofs.YtbefcdjcefmicaaGreat.Em
open Go.ChangeMaps Go.ChangeShapes Go.WideShapes Go.ChangeAt Go.RowKit En
set_option linter.unusedVariables false
set_option linter.unusedSimpArgs false
set_option maxRecDepth 100000
set_option maxHeartbeats 1600000

/-- A map's entry is laid; the key was not there. -/
theorem update_run {A : Book} {w : World} {s : Nat} {t : Txn} (hb : w.heap[A.bm s]? = some (.map (mapEs A s t).toArray t.cells.length)) (key b : Nat) (hx : t.cell key = none) :
    (Instr.mapUpdate 114 (.map (some (A.bm s))) (.int .i64 (key : Int)) (ptr b)).run Tryz.prog w = .ok () (setBlock w (A.bm s) (.map (mapEs A s t ++ [(⟨i64 key, ptr b, t.cells.length⟩ : MapEntry)]).toArray (t.cells.length + 1))) := by
  have hck : ∀ e, (Instr.checkKey e 10000 3 (.int .i64 (key : Int))).run Tryz.prog w = .ok () w := by
    intro e
    unfold Instr.checkKey
    simp [run_underlying Tryz.underlying3]
  rw [mapEs_ent] at hb ⊢
  rcases findNow_ent (A.bx s) key (t.cells.reverse.zipIdx.map fun p => (p.1.1, p.2)) 0 with ⟨h1, h2⟩ | ⟨j, h1, h2⟩
  · clear h2 hx
    generalize (t.cells.reverse.zipIdx.map fun p => (p.1.1, p.2)).map (ent (A.bx s)) = es at *
    simp [Instr.mapUpdate, run_underlying Tryz.underlying114, run_underlying Tryz.underlying3, MapKept.run_getObj_map hb, hck, Instr.findKey, h1, MapKept.run_setObj_map _ hb, Result.andThen, setBlock]
  · have h3 := (cell_keys t key).1 h2
    rw [hx] at h3
    cases h3
theorem wpList_update {P : Program} {w w' : World} {ops : Array Oper} {rest : List Oper} {o : Oper} {a : Act} {Q : Exit → Act → World → Prop}
    (hg : o.guard = none) (m x v : Operand) (t : TypeId) (hop : o.op = Op.mapUpdate t m x v) (hrun : (Instr.mapUpdate t (a.eval m) (a.eval x) (a.eval v)).run P w = .ok () w')
    (hK : wpList P ops Q rest (a.put o.dst undef) w') : wpList P ops Q (o :: rest) a w := by
  refine wpList_plain hg fun K' hK' => ?_
  unfold Oper.wp
  simp [execOp, hop, hrun, Result.andThen]
  exact hK' _ _ hK
theorem grown_setBlock {w : World} {b : Nat} {es : Array MapEntry} {clock : Nat} (hb : w.heap[b]? = some (.map es clock)) (o : Obj) : w.grownBy (setBlock w b o) (some b) :=
  ⟨rfl, rfl, rfl, by simp [setBlock], fun i _ hi => heap_setBlock_other hb _ (fun e => hi (by rw [e]))⟩
/-- A key was taken: the new cell lies at b. -/
def Took (A : Book) (w : World) (s key : Nat) (σ' : St) : Ending → World → Prop := fun e w' => ∃ b, e = .returned (ptr b) ∧ ∃ A', Rep A' σ' w' ∧ Grow A.L w A'.L w' ∧ Stay A A' s ∧ A'.bx s key = b ∧ A'.vpairs = A.vpairs
theorem take_tells {A : Book} {σ : St} {w : World} (hR : Rep A σ w) (s : Nat) (t : Txn) (ht : σ.txns.getD s none = some t) (key old : Nat) (hx : t.cell key = none) (hk : t.keys.length < 1000000) :
    Calls Tryz.prog 176 #[.pointer (some ⟨A.bt s, 0, none⟩), .int .i64 (key : Int), .int .u64 (old : Int)] w (Took A w s key (σ.takeKey s key ⟨0, old, false⟩)) := by
  have hb := hR.map ht
  generalize hwa : w.alloc (.cells #[.int .u64 0, .int .u64 (old : Int), .bool false] 204) = wa
  have hbl : Below w.heap.size w wa := by rw [← hwa]; exact (Below.refl _ _).alloc (Nat.le_refl _) _
  have hblk : wa.heap[w.heap.size]? = some (.cells (celCs ⟨0, old, false⟩).toArray 204) := by rw [← hwa]; exact heap_alloc_new w _
  have ra := hR.below hbl
  have t7 := ra.txn ht 7 (v := .map (some (A.bm s))) rfl
  have hb1 := ra.map ht
  have hup := update_run hb1 key w.heap.size hx
  generalize hwb : setBlock wa (A.bm s) (.map (mapEs A s t ++ [(⟨i64 key, ptr w.heap.size, t.cells.length⟩ : MapEntry)]).toArray (t.cells.length + 1)) = wb at hup
  obtain ⟨rb, gb⟩ := hR.newCel hbl ht hx (Nat.le_refl _) ⟨0, old, false⟩ hblk (w2 := wb) (by rw [← hwb]; exact grown_setBlock hb1 _) (by rw [← hwb]; exact heap_setBlock_same hb1 _) (by rw [← hwb]; simp [setBlock])
  have ht2 : (σ.setT s { t with cells := (key, ⟨0, old, false⟩) :: t.cells }).txns.getD s none = some { t with cells := (key, ⟨0, old, false⟩) :: t.cells } := by rw [getT_set (lt_of_txn ht), if_pos rfl]
  have t6 : wb.cell? ⟨A.bt s, 6, none⟩ = some (A.vkeys s) := rb.txn ht2 6 rfl
  have z6 := rb.txnF ht2 6
  have rc := rb.alloc (.cells #[.int .i64 (key : Int)] 3)
  have hown := (rc.mem.all (.keys s))
  rw [mem_keys ht2] at hown
  have ho : (wb.alloc (.cells #[.int .i64 (key : Int)] 3)).ownsRow 0 3 1 (A.vkeys s) t.keys.length (t.keys.map i64) := hown.1
  obtain ⟨av, capv, hv, _⟩ := Ow.own_form ho
  have e : σ.takeKey s key ⟨0, old, false⟩ = (σ.setT s { t with cells := (key, ⟨0, old, false⟩) :: t.cells }).setT s { t with cells := (key, ⟨0, old, false⟩) :: t.cells, keys := t.keys ++ [key] } := by
    unfold St.takeKey St.setT
    rw [txn_get ht]
    simp
  rw [e]
  have FN : Hid (∀ v' w2, w2.ownsRow 0 3 1 v' (t.keys.length + 1) (t.keys.map i64 ++ [.int .i64 (key : Int)]) → (wb.alloc (.cells #[.int .i64 (key : Int)] 3)).grownBy w2 (A.vkeys s).ownBlock → (v'.ownBlock = (A.vkeys s).ownBlock ∨ ∀ g, v'.ownBlock = some g → (wb.alloc (.cells #[.int .i64 (key : Int)] 3)).heap.size ≤ g) →
      (∃ A', Rep A' ((σ.setT s { t with cells := (key, ⟨0, old, false⟩) :: t.cells }).setT s { t with cells := (key, ⟨0, old, false⟩) :: t.cells, keys := t.keys ++ [key] }) (w2.setCell ⟨A.bt s, 6, none⟩ v') ∧ Grow A.L w A'.L (w2.setCell ⟨A.bt s, 6, none⟩ v') ∧ Stay A A' s ∧ A'.bx s key = w.heap.size ∧ A'.vpairs = A.vpairs) ∧ w2.cell? ⟨A.bt s, 6, none⟩ = some (A.vkeys s) ∧ w2.frozen? ⟨A.bt s, 6, none⟩ = false) := by
    intro v' w2 q1 q2 q3
    obtain ⟨k1, k2, k3, k4⟩ := rc.keysOn ht2 (t.keys ++ [key]) v' q2 (by simpa using q1) q3
    refine ⟨⟨_, k1, (gb.trans (Grow.alloc _ _ _)).trans k2, ⟨rfl, rfl, rfl, rfl, rfl, rfl, rfl, rfl, rfl, rfl, rfl, fun k hk' => ?_, fun _ _ => rfl⟩, ?_, rfl⟩, k3, k4⟩
    · funext j
      show (if k = s ∧ j = key then w.heap.size else A.bx k j) = A.bx k j
      rw [if_neg (fun h => hk' h.1)]
    · show (if s = s ∧ key = key then w.heap.size else A.bx s key) = w.heap.size
      rw [if_pos ⟨rfl, rfl⟩]
  have HUP := Lib.hid hup
  rw [← hwa] at HUP t7
  rw [hv] at t6 ho FN
  have HO := Lib.hid ho
  have z6' : wb.frozen? ⟨A.bt s, 6, none⟩ = false := z6
  have HZ := Lib.hid (show wb.heap.size = w.heap.size + 1 by rw [← hwb, ← hwa]; simp [setBlock])
  clear hR ht hb hbl hblk ra hb1 hup rb gb ht2 rc hown ho e hwb hwa hx z6
  generalize hn : t.keys.length = n at *
  have HN := Lib.hid hk
  clear hk hn
  obtain ⟨ii, hii, hz0, hz1, hz2⟩ := info_parts infoI
  go_enter Tryz.func176, Tryz.ntmps176
  go_wp2_with (first | (refine wpList_update rfl (.tmp 14) (.tmp 15) (.tmp 16) 114 rfl HUP.out ?_) | (refine Ow.wpList_append_to _ rfl (.tmp 21) (.tmp 23) 33 rfl 0 _ ii _ 1 8 Tryz.underlying33 hii hz0 hz1 hz2 rfl (by decide) (.slice av n capv) n (t.keys.map i64) rfl HO.out ⟨wb.heap.size, 0, none⟩ 1 1 (by omega) [.int .i64 (key : Int)] rfl rfl (by intro j' u hu; exact Ow.new_row _ [.int .i64 (key : Int)] _ _ rfl j' u hu) (by intro u hu; obtain rfl := List.mem_singleton.1 hu; rfl) (by have := HN.out; unfold maxLen; omega) (by have := HN.out; omega) (Nat.zero_le _) ?_; intro v' w4 q1 q2 q3; obtain ⟨k1, k2, k3⟩ := FN.out v' w4 q1 q2 q3; obtain ⟨a4, cap4, rfl, _⟩ := Ow.own_form q1; have K1 := Lib.hid k1; clear k1 q1 q2 q3))
  go_ret
  exact ⟨_, rfl, K1.out⟩
end Go.Proofs.YtbefcdjcefmicaaGreat.Em

namespace Go.Proofs.YtbefcdjcefmicaaGreat.Em
open Go.ChangeShapes Go.WideShapes Go.ChangeAt Go.RowKit En
set_option linter.unusedVariables false
set_option linter.unusedSimpArgs false
set_option maxRecDepth 100000
set_option maxHeartbeats 1600000

theorem cas_i {A : Book} {σ : St} {w : World} (h : Rep A σ w) (i o n : Nat) (z : Int) (hz : z = (i : Int)) (hi : i < σ.words.length) (hc : σ.count < 4000000000000000000) :
    Calls Tryz.prog 75 #[.pointer (some ⟨A.ba, 0, none⟩), .int .i64 z, .int .u64 (o : Int), .int .u64 (n : Int)] w (Did A w (σ.cas i o n) (.bool (σ.word i == o))) := by subst hz; exact cas_any h i o n hi hc
theorem upd_cons (l : List (Nat × Cel)) (key : Nat) (x y : Cel) (h : l.lookup key = none) : upd ((key, x) :: l) key y = (key, y) :: l := by
  have h1 := lookup_none h
  unfold upd
  simp only [List.map_cons, if_true]
  congr 1
  conv => rhs; rw [← List.map_id l]
  refine List.map_congr_left fun p hp => ?_
  simp [h1 p hp]
theorem takeKey_cell {σ : St} {s : Nat} {t : Txn} (ht : σ.txns.getD s none = some t) (key : Nat) (x y : Cel) (hx : t.cell key = none) :
    (σ.takeKey s key x).setT s { (σ.takeKey s key x).t s with cells := upd ((σ.takeKey s key x).t s).cells key y } = σ.takeKey s key y := by
  have e : (σ.takeKey s key x).t s = { t with cells := (key, x) :: t.cells, keys := t.keys ++ [key] } := by
    refine txn_get ?_
    unfold St.takeKey
    rw [txn_get ht, getT_set (lt_of_txn ht), if_pos rfl]
  rw [e]
  unfold St.takeKey St.setT
  simp only [txn_get ht, List.set_set]
  rw [upd_cons _ _ _ _ hx]
theorem takeKey_txn {σ : St} {s : Nat} {t : Txn} (ht : σ.txns.getD s none = some t) (key : Nat) (x : Cel) : (σ.takeKey s key x).txns.getD s none = some { t with cells := (key, x) :: t.cells, keys := t.keys ++ [key] } := by
  unfold St.takeKey
  rw [txn_get ht, getT_set (lt_of_txn ht), if_pos rfl]
theorem k_pushC_miss {A : Book} {σ : St} {w : World} (hR : Rep A σ w) (s : Nat) (t : Txn) (ht : σ.txns.getD s none = some t) (c : Cal) (hc : σ.calls.getD s none = some c) (link head : Nat) (hk : c.op.key < 64) (hx : t.cell c.op.key = none) (hkl : t.keys.length < 1000000) (hcnt : σ.count < 4000000000000000000) (b0 b1 b2 b3 b4 : Nat)
    (B0 : Box A.L w b0 (.pointer (some ⟨A.be, 0, none⟩))) (B1 : Box A.L w b1 (.pointer (some ⟨A.bc s, 0, none⟩))) (B2 : Box A.L w b2 (.int .u64 (head : Int))) (B3 : Box A.L w b3 (.int .u64 (link : Int))) (B4 : Box A.L w b4 (.pointer (some ⟨A.bt s, 0, none⟩))) (hm : σ.word (9 + c.op.key) ≠ head) :
    Calls Tryz.prog 189 #[.pointer (some ⟨b0, 0, none⟩), .pointer (some ⟨b1, 0, none⟩), .pointer (some ⟨b2, 0, none⟩), .pointer (some ⟨b3, 0, none⟩), .pointer (some ⟨b4, 0, none⟩)] w (Ran A w s (σ.run s (.pushC link head))) := by
  have c0 := B0.cell
  have c1 := B1.cell
  have c2 := B2.cell
  have c3 := B3.cell
  have e2 : w.cell? ⟨A.be, 2, none⟩ = some (.pointer (some ⟨A.ba, 0, none⟩)) := hR.eng 2 rfl
  have k1 : w.cell? ⟨A.bc s, 1, none⟩ = some (.int .i64 (c.op.key : Int)) := hR.call hc 1 rfl
  have n1 : IntKind.i64.wrap (9 + (c.op.key : Int)) = 9 + (c.op.key : Int) := by rw [IntKind.wrap_i64]; omega
  have HL := Lib.hid (cas_i hR.drew (9 + c.op.key) head link (9 + (c.op.key : Int)) (by omega) (by rw [hR.nw]; omega) hcnt)
  have HG : Hid (Grow A.L w A.L w.drew) := Grow.drew _ _
  have hrun : σ.run s (.pushC link head) = (σ.tick, some (.fresh link)) := by simp [St.run, call_get hc, St.cas, hm]
  rw [hrun]
  have hb : (σ.word (9 + c.op.key) == head) = false := by simpa using hm
  have hcs : σ.cas (9 + c.op.key) head link = σ.tick := if_neg hm
  rw [hb, hcs] at HL
  have HB : Hid (∀ w1, Rep A σ.tick w1 → Grow A.L w A.L w1 → Calls Tryz.prog 125 #[.pointer (some ⟨A.be, 0, none⟩), .pointer (some ⟨A.bt s, 0, none⟩), .pointer (some ⟨A.bc s, 0, none⟩), .int .u64 (link : Int)] w1 (Tells A w1 s (σ.tick, .fresh link)) ∧ w1.cell? ⟨b0, 0, none⟩ = some (.pointer (some ⟨A.be, 0, none⟩)) ∧ w1.cell? ⟨b1, 0, none⟩ = some (.pointer (some ⟨A.bc s, 0, none⟩)) ∧ w1.cell? ⟨b3, 0, none⟩ = some (.int .u64 (link : Int)) ∧ w1.cell? ⟨b4, 0, none⟩ = some (.pointer (some ⟨A.bt s, 0, none⟩))) :=
    fun w1 q g => ⟨fresh_any q s link, (B0.grow g).cell, (B1.grow g).cell, (B3.grow g).cell, (B4.grow g).cell⟩
  clear hR ht hc hk hx hkl hcnt B0 B1 B2 B3 B4 hm hrun hb hcs
  generalize c.op.key = key at *
  go_enter Tryz.func189, Tryz.ntmps189
  go_wp2_with fail
  refine wp_region_still_tail 12 (by kernel_rfl) (by kernel_rfl) ?_
  simp only [List.take_succ_cons, List.take_zero, List.drop_succ_cons, List.drop_zero]
  repeat still_step
  refine wpStill_nil ?_
  change wpList _ _ _ _ _ w.drew
  generalize w.drew = wd at *
  go_wp2_with (first | (go_at_call 75; refine HL.out.mono ?_; rintro e w1 ⟨rfl, q1, q2⟩; have g1 := HG.out.trans q2; obtain ⟨hf, d0, d1, d3, d4⟩ := HB.out w1 q1 g1; have HQ := Lib.hid (And.intro hf g1); clear q1 q2 g1 hf) | (go_at_call 125; refine HQ.out.1.mono ?_; rintro e w2 ⟨A2, v, rfl, p1, p2, p3, p4⟩))
  go_ret
  exact ⟨A2, v, rfl, p1, HQ.out.2.trans p2, p3, p4⟩
theorem k_pushC_hit {A : Book} {σ : St} {w : World} (hR : Rep A σ w) (s : Nat) (t : Txn) (ht : σ.txns.getD s none = some t) (c : Cal) (hc : σ.calls.getD s none = some c) (link head : Nat) (hk : c.op.key < 64) (hx : t.cell c.op.key = none) (hkl : t.keys.length < 1000000) (hcnt : σ.count < 4000000000000000000) (b0 b1 b2 b3 b4 : Nat)
    (B0 : Box A.L w b0 (.pointer (some ⟨A.be, 0, none⟩))) (B1 : Box A.L w b1 (.pointer (some ⟨A.bc s, 0, none⟩))) (B2 : Box A.L w b2 (.int .u64 (head : Int))) (B3 : Box A.L w b3 (.int .u64 (link : Int))) (B4 : Box A.L w b4 (.pointer (some ⟨A.bt s, 0, none⟩))) (hm : σ.word (9 + c.op.key) = head) :
    Calls Tryz.prog 189 #[.pointer (some ⟨b0, 0, none⟩), .pointer (some ⟨b1, 0, none⟩), .pointer (some ⟨b2, 0, none⟩), .pointer (some ⟨b3, 0, none⟩), .pointer (some ⟨b4, 0, none⟩)] w (Ran A w s (σ.run s (.pushC link head))) := by
  have c0 := B0.cell
  have c1 := B1.cell
  have c2 := B2.cell
  have c3 := B3.cell
  have e2 : w.cell? ⟨A.be, 2, none⟩ = some (.pointer (some ⟨A.ba, 0, none⟩)) := hR.eng 2 rfl
  have k1 : w.cell? ⟨A.bc s, 1, none⟩ = some (.int .i64 (c.op.key : Int)) := hR.call hc 1 rfl
  have n1 : IntKind.i64.wrap (9 + (c.op.key : Int)) = 9 + (c.op.key : Int) := by rw [IntKind.wrap_i64]; omega
  have HL := Lib.hid (cas_i hR.drew (9 + c.op.key) head link (9 + (c.op.key : Int)) (by omega) (by rw [hR.nw]; omega) hcnt)
  have HG : Hid (Grow A.L w A.L w.drew) := Grow.drew _ _
  have hrun : σ.run s (.pushC link head) = ((σ.put (9 + c.op.key) link).takeKey s c.op.key ⟨link, 0, true⟩, some (.fin {})) := by simp [St.run, call_get hc, St.cas, hm]
  rw [hrun]
  have hb : (σ.word (9 + c.op.key) == head) = true := by simpa using hm
  have hcs : σ.cas (9 + c.op.key) head link = σ.put (9 + c.op.key) link := if_pos hm
  rw [hb, hcs] at HL
  have HB : Hid (∀ w1, Rep A (σ.put (9 + c.op.key) link) w1 → Grow A.L w A.L w1 → Calls Tryz.prog 176 #[.pointer (some ⟨A.bt s, 0, none⟩), .int .i64 (c.op.key : Int), .int .u64 0] w1.drew (Took A w1.drew s c.op.key ((σ.put (9 + c.op.key) link).takeKey s c.op.key ⟨0, 0, false⟩)) ∧ w1.cell? ⟨b1, 0, none⟩ = some (.pointer (some ⟨A.bc s, 0, none⟩)) ∧ w1.cell? ⟨b4, 0, none⟩ = some (.pointer (some ⟨A.bt s, 0, none⟩)) ∧ w1.cell? ⟨A.bc s, 1, none⟩ = some (.int .i64 (c.op.key : Int))) :=
    fun w1 q g => ⟨take_tells q.drew s t ht c.op.key 0 hx hkl, (B1.grow g).cell, (B4.grow g).cell, q.call hc 1 rfl⟩
  have HE : Hid (∀ w1 w2 A1 b, Grow A.L w A.L w1 → Rep A1 ((σ.put (9 + c.op.key) link).takeKey s c.op.key ⟨0, 0, false⟩) w2 → Grow A.L w1 A1.L w2 → Stay A A1 s → A1.bx s c.op.key = b → A1.vpairs = A.vpairs →
      w2.cell? ⟨b, 0, none⟩ = some (.int .u64 0) ∧ w2.frozen? ⟨b, 0, none⟩ = false ∧ w2.cell? ⟨b, 2, none⟩ = some (.bool false) ∧ w2.frozen? ⟨b, 2, none⟩ = false ∧ w2.cell? ⟨b3, 0, none⟩ = some (.int .u64 (link : Int)) ∧
      ((w2.setCell ⟨b, 0, none⟩ (.int .u64 (link : Int))).setCell ⟨b, 2, none⟩ (.bool true)).cell? ⟨b0, 0, none⟩ = some (.pointer (some ⟨A.be, 0, none⟩)) ∧ ((w2.setCell ⟨b, 0, none⟩ (.int .u64 (link : Int))).setCell ⟨b, 2, none⟩ (.bool true)).cell? ⟨b1, 0, none⟩ = some (.pointer (some ⟨A.bc s, 0, none⟩)) ∧
      Calls Tryz.prog 107 #[.pointer (some ⟨A.be, 0, none⟩), .pointer (some ⟨A.bc s, 0, none⟩), .agg #[.int .i64 0, .int .i64 0, .slice none 0 0, .int .i64 0, .int .i64 0]] ((w2.setCell ⟨b, 0, none⟩ (.int .u64 (link : Int))).setCell ⟨b, 2, none⟩ (.bool true)) (Tells A1 ((w2.setCell ⟨b, 0, none⟩ (.int .u64 (link : Int))).setCell ⟨b, 2, none⟩ (.bool true)) s ((σ.put (9 + c.op.key) link).takeKey s c.op.key ⟨link, 0, true⟩, .fin {})) ∧
      Grow A.L w A1.L ((w2.setCell ⟨b, 0, none⟩ (.int .u64 (link : Int))).setCell ⟨b, 2, none⟩ (.bool true))) := by
    intro w1 w2 A1 b g1 r2 g2 st hbx hvp
    have ht1 : (σ.put (9 + c.op.key) link).txns.getD s none = some t := ht
    have ht2 := takeKey_txn ht1 c.op.key ⟨0, 0, false⟩
    have hx2 : ({ t with cells := (c.op.key, (⟨0, 0, false⟩ : Cel)) :: t.cells, keys := t.keys ++ [c.op.key] } : Txn).cell c.op.key = some ⟨0, 0, false⟩ := by simp [Txn.cell, List.lookup]
    obtain ⟨a0, a1, a2⟩ := r2.cel ht2 hx2
    have z0 := r2.celF ht2 hx2 0
    have z2 := r2.celF ht2 hx2 2
    obtain ⟨r3, g3⟩ := r2.celSet ht2 hx2 ⟨link, 0, false⟩ 0 (.int .u64 (link : Int)) rfl
    have e3 := takeKey_cell ht1 c.op.key ⟨0, 0, false⟩ ⟨link, 0, false⟩ hx
    rw [txn_get ht2] at e3
    rw [e3] at r3
    have ht3 := takeKey_txn ht1 c.op.key ⟨link, 0, false⟩
    have hx3 : ({ t with cells := (c.op.key, (⟨link, 0, false⟩ : Cel)) :: t.cells, keys := t.keys ++ [c.op.key] } : Txn).cell c.op.key = some ⟨link, 0, false⟩ := by simp [Txn.cell, List.lookup]
    obtain ⟨r4, g4⟩ := r3.celSet ht3 hx3 ⟨link, 0, true⟩ 2 (.bool true) rfl
    have e4 := takeKey_cell ht1 c.op.key ⟨link, 0, false⟩ ⟨link, 0, true⟩ hx
    rw [txn_get ht3] at e4
    rw [e4] at r4
    rw [hbx] at a0 a2 z0 z2 g3 r4 g4
    have g5 := ((g1.trans g2).trans g3).trans g4
    have he := ends_at r4 s {} 0 0 0 0 (.slice none 0 0) rfl (.inr ⟨rfl, rfl⟩)
    rw [st.be, st.bc] at he
    exact ⟨a0, z0, a2, z2, (B3.grow (g1.trans g2)).cell, (B0.grow g5).cell, (B1.grow g5).cell, he, g5⟩
  clear hR ht hc hk hx hkl hcnt B0 B1 B2 B3 B4 hm hrun hb hcs
  generalize (σ.put (9 + c.op.key) link).takeKey s c.op.key ⟨0, 0, false⟩ = σ1 at *
  generalize (σ.put (9 + c.op.key) link).takeKey s c.op.key ⟨link, 0, true⟩ = σ2 at *
  generalize c.op.key = key at *
  go_enter Tryz.func189, Tryz.ntmps189
  go_wp2_with fail
  refine wp_region_still_tail 12 (by kernel_rfl) (by kernel_rfl) ?_
  simp only [List.take_succ_cons, List.take_zero, List.drop_succ_cons, List.drop_zero]
  repeat still_step
  refine wpStill_nil ?_
  change wpList _ _ _ _ _ w.drew
  generalize w.drew = wd at *
  go_wp2_with (go_at_call 75; refine HL.out.mono ?_; rintro e w1 ⟨rfl, q1, q2⟩; have g1 := HG.out.trans q2; obtain ⟨hf, d1, d4, d5⟩ := HB.out w1 q1 g1; have HQ := Lib.hid (And.intro hf (g1.trans (Grow.drew _ _))); clear q1 q2 g1 hf)
  refine wp_region_still_tail 6 (by kernel_rfl) (by kernel_rfl) ?_
  simp only [List.take_succ_cons, List.take_zero, List.drop_succ_cons, List.drop_zero]
  repeat still_step
  refine wpStill_nil ?_
  change wpList _ _ _ _ _ w1.drew
  generalize w1.drew = wd1 at *
  go_wp2_with (first | (go_at_call 176; refine HQ.out.1.mono ?_; rintro e w2 ⟨b, rfl, A1, r2, g2, st, hbx, hvp⟩; obtain ⟨a0, z0, a2, z2, d3, y0, y1, he, g5⟩ := HE.out _ w2 A1 b HQ.out.2 r2 g2 st hbx hvp; have HZ := Lib.hid (And.intro he (And.intro g5 st)); clear r2 g2 st hbx hvp he g5) | (go_at_call 107; refine HZ.out.1.mono ?_; rintro e w3 ⟨A2, v, rfl, p1, p2, p3, p4⟩))
  go_ret
  exact ⟨A2, v, rfl, p1, HZ.out.2.1.trans p2, HZ.out.2.2.trans p3, p4⟩
theorem k_pushC {A : Book} {σ : St} {w : World} (hR : Rep A σ w) (s : Nat) (t : Txn) (ht : σ.txns.getD s none = some t) (c : Cal) (hc : σ.calls.getD s none = some c) (link head : Nat) (hk : c.op.key < 64) (hx : t.cell c.op.key = none) (hkl : t.keys.length < 1000000) (hcnt : σ.count < 4000000000000000000) (b0 b1 b2 b3 b4 : Nat)
    (B0 : Box A.L w b0 (.pointer (some ⟨A.be, 0, none⟩))) (B1 : Box A.L w b1 (.pointer (some ⟨A.bc s, 0, none⟩))) (B2 : Box A.L w b2 (.int .u64 (head : Int))) (B3 : Box A.L w b3 (.int .u64 (link : Int))) (B4 : Box A.L w b4 (.pointer (some ⟨A.bt s, 0, none⟩))) :
    Calls Tryz.prog 189 #[.pointer (some ⟨b0, 0, none⟩), .pointer (some ⟨b1, 0, none⟩), .pointer (some ⟨b2, 0, none⟩), .pointer (some ⟨b3, 0, none⟩), .pointer (some ⟨b4, 0, none⟩)] w (Ran A w s (σ.run s (.pushC link head))) := by
  by_cases hm : σ.word (9 + c.op.key) = head
  · exact k_pushC_hit hR s t ht c hc link head hk hx hkl hcnt b0 b1 b2 b3 b4 B0 B1 B2 B3 B4 hm
  · exact k_pushC_miss hR s t ht c hc link head hk hx hkl hcnt b0 b1 b2 b3 b4 B0 B1 B2 B3 B4 hm
end Go.Proofs.YtbefcdjcefmicaaGreat.Em

namespace Go.Proofs.YtbefcdjcefmicaaGreat.Em
open Go.ChangeShapes Go.WideShapes Go.ChangeAt Go.RowKit En
set_option linter.unusedVariables false
set_option linter.unusedSimpArgs false
set_option maxRecDepth 100000
set_option maxHeartbeats 1600000

theorem k_drawH {A : Book} {σ : St} {w : World} (hR : Rep A σ w) (s : Nat) (x now : Nat) (hx : x < 18446744073709551616) (hi : lastOf x ≤ 2000) (hcnt : σ.count < 4000000000000000000) (b0 b1 b2 : Nat)
    (B0 : Box A.L w b0 (.pointer (some ⟨A.be, 0, none⟩))) (B1 : Box A.L w b1 (.int .u64 (x : Int))) (B2 : TurnBox (kp A σ s) A.L w b2 x now) :
    Calls Tryz.prog 117 #[.pointer (some ⟨b0, 0, none⟩), .pointer (some ⟨b1, 0, none⟩), .pointer (some ⟨b2, 0, none⟩)] w (Ran A w s (σ.run s (.drawH x now))) := by
  have c0 := B0.cell
  have c1 := B1.cell
  have HH := Lib.hid (help_any hR x hx hi hcnt)
  obtain ⟨tv, X2, m0, m1, m2, m3, m4, htv, N0, N1, N2, N3, N4⟩ := B2
  have HB : Hid (∀ w1, Grow A.L w A.L w1 → w1.cell? ⟨b2, 0, none⟩ = some tv) := fun w1 g => (X2.grow g).cell
  have HN := Lib.hid (And.intro N0 (And.intro N1 (And.intro N2 (And.intro N3 N4))))
  have hrun : σ.run s (.drawH x now) = (σ.help x, some (.turn x now)) := rfl
  rw [hrun]
  clear hR hx hi hcnt B0 B1 X2 N0 N1 N2 N3 N4 hrun
  subst htv
  go_enter Tryz.func117, Tryz.ntmps117
  go_wp2_with (go_at_call 74; refine HH.out.mono ?_; rintro e w1 ⟨rfl, q1, q2⟩; have d2 := HB.out w1 q2; have HQ := Lib.hid (And.intro q1 q2); clear q1 q2)
  go_ret
  obtain ⟨q1, q2⟩ := HQ.out
  obtain ⟨N0, N1, N2, N3, N4⟩ := HN.out
  exact ⟨A, _, rfl, q1, q2, Stay.refl _ _, _, _, _, _, _, rfl, N0.grow q2, N1.grow q2, N2.grow q2, N3.grow q2, N4.grow q2⟩
theorem k_draw_over {A : Book} {σ : St} {w : World} (hR : Rep A σ w) (s : Nat) (hx : σ.word 0 < 18446744073709551616) (hcnt : σ.count < 4000000000000000000) (b0 b1 b2 : Nat)
    (B0 : Box A.L w b0 (.pointer (some ⟨A.be, 0, none⟩))) (B1 : Box A.L w b1 (.pointer (some ⟨A.bt s, 0, none⟩))) (B2 : Box A.L w b2 (.pointer (some ⟨A.bc s, 0, none⟩))) (ho : σ.limit ≤ timeOf (σ.word 0)) :
    Calls Tryz.prog 113 #[.pointer (some ⟨b0, 0, none⟩), .pointer (some ⟨b1, 0, none⟩), .pointer (some ⟨b2, 0, none⟩)] w (Ran A w s (σ.run s .draw)) := by
  have c0 := B0.cell
  have e2 : w.cell? ⟨A.be, 2, none⟩ = some (.pointer (some ⟨A.ba, 0, none⟩)) := hR.eng 2 rfl
  have HL := Lib.hid (load_i hR 0 0 rfl (by rw [hR.nw]; omega) hcnt)
  have HD := Lib.hid (fun w' => drawn_any (σ.word 0) hx w')
  have HB : Hid (∀ w1, Rep A σ.tick w1 → Grow A.L w A.L w1 → ∀ W3, (w1.alloc (.cells #[.int .u64 (σ.word 0 : Int)] 24)).alloc (.cells #[.int .u64 (timeOf (σ.word 0) : Int)] 24) = W3 → ∀ n w5, W3.drewN n = w5 → Rep A σ.tick w5 ∧ Grow A.L w A.L w5 ∧ Fix A.L w5 w1.heap.size (.cells #[.int .u64 (σ.word 0 : Int)] 24) ∧ Fix A.L w5 (w1.heap.size + 1) (.cells #[.int .u64 (timeOf (σ.word 0) : Int)] 24) ∧ w5.cell? ⟨b0, 0, none⟩ = some (.pointer (some ⟨A.be, 0, none⟩)) ∧ w5.cell? ⟨b1, 0, none⟩ = some (.pointer (some ⟨A.bt s, 0, none⟩)) ∧ w5.cell? ⟨b2, 0, none⟩ = some (.pointer (some ⟨A.bc s, 0, none⟩)) ∧ w5.cell? ⟨A.be, 1, none⟩ = some (.int .u64 (σ.limit : Int)) ∧ W3.cell? ⟨w1.heap.size, 0, none⟩ = some (.int .u64 (σ.word 0 : Int)) ∧ W3.cell? ⟨w1.heap.size + 1, 0, none⟩ = some (.int .u64 (timeOf (σ.word 0) : Int)) ∧ W3.cell? ⟨b0, 0, none⟩ = some (.pointer (some ⟨A.be, 0, none⟩)) ∧ W3.cell? ⟨A.be, 1, none⟩ = some (.int .u64 (σ.limit : Int))) := by
    rintro w1 q1 q2 W3 rfl n w5 rfl
    obtain ⟨r3, g3, f0, f1⟩ := allocs2 q1 #[.int .u64 (σ.word 0 : Int)] 24 #[.int .u64 (timeOf (σ.word 0) : Int)] 24
    have gd := Grow.drewN A.L ((w1.alloc (.cells #[.int .u64 (σ.word 0 : Int)] 24)).alloc (.cells #[.int .u64 (timeOf (σ.word 0) : Int)] 24)) n
    have gg := (q2.trans g3).trans gd
    exact ⟨r3.drewN n, gg, f0.grow gd, f1.grow gd, (B0.grow gg).cell, (B1.grow gg).cell, (B2.grow gg).cell, (r3.drewN n).eng 1 rfl, f0.cell 0 rfl, f1.cell 0 rfl, (B0.grow (q2.trans g3)).cell, r3.eng 1 rfl⟩
  have HX := Lib.hid (And.intro B0 (And.intro B1 B2))
  have hrun : σ.run s .draw = (σ.tick, some (.abort 14 6)) := by simp only [St.run]; exact if_pos ho
  rw [hrun]
  clear hR hx hcnt B0 B1 B2 hrun
  generalize σ.word 0 = x at *
  generalize timeOf x = now at *
  generalize lastOf x = last at *
  generalize σ.limit = lim at *
  have d1 : decide ((lim : Int) ≤ (now : Int)) = true := by simpa using ho
  have d2 : ((lim : Int) ≤ (now : Int)) = True := by simpa using ho
  have d3 : (lim ≤ now) = True := by simpa using ho
  clear ho
  go_enter Tryz.func113, Tryz.ntmps113
  go_wp2_with (first | (go_at_call 73; refine HL.out.mono ?_; rintro e w1 ⟨rfl, q1, q2⟩; obtain ⟨_, _, _, _, _, _, _, _, y1, y2, y3, y4⟩ := HB.out w1 q1 q2 _ rfl 0 _ rfl; have HQ := Lib.hid (And.intro q1 q2); clear q1 q2) | (go_at_call 59; refine (HD.out _).mono ?_; rintro e w' ⟨rfl, rfl⟩))
  generalize hw3 : (w1.alloc _).alloc _ = w3 at *
  go_quiet (fail)
  generalize hw5 : w3.drewN _ = w5
  obtain ⟨r5, g5, f0, f1, z0, z1, z2, z3, _⟩ := HB.out w1 HQ.out.1 HQ.out.2 w3 hw3 _ w5 hw5
  clear y1 y2 y3 y4 hw3 hw5
  have ha : Calls Tryz.prog 85 #[.pointer (some ⟨A.be, 0, none⟩), .pointer (some ⟨A.bt s, 0, none⟩), .pointer (some ⟨A.bc s, 0, none⟩), .int .i64 14, .int .i64 6] w5 (Tells A w5 s (σ.tick, .abort 14 6)) := abort_any r5 s 14 6
  have HA := Lib.hid (And.intro ha g5)
  clear r5 g5 f0 f1 ha
  go_wp2_with (go_at_call 85; refine HA.out.1.mono ?_; rintro e w2 ⟨A2, v, rfl, p1, p2, p3, p4⟩)
  go_ret
  exact ⟨A2, v, rfl, p1, HA.out.2.trans p2, p3, p4⟩
theorem k_draw_turn {A : Book} {σ : St} {w : World} (hR : Rep A σ w) (s : Nat) (hx : σ.word 0 < 18446744073709551616) (hcnt : σ.count < 4000000000000000000) (b0 b1 b2 : Nat)
    (B0 : Box A.L w b0 (.pointer (some ⟨A.be, 0, none⟩))) (B1 : Box A.L w b1 (.pointer (some ⟨A.bt s, 0, none⟩))) (B2 : Box A.L w b2 (.pointer (some ⟨A.bc s, 0, none⟩))) (ho : ¬ σ.limit ≤ timeOf (σ.word 0)) (hl : lastOf (σ.word 0) = 0) :
    Calls Tryz.prog 113 #[.pointer (some ⟨b0, 0, none⟩), .pointer (some ⟨b1, 0, none⟩), .pointer (some ⟨b2, 0, none⟩)] w (Ran A w s (σ.run s .draw)) := by
  have c0 := B0.cell
  have e2 : w.cell? ⟨A.be, 2, none⟩ = some (.pointer (some ⟨A.ba, 0, none⟩)) := hR.eng 2 rfl
  have HL := Lib.hid (load_i hR 0 0 rfl (by rw [hR.nw]; omega) hcnt)
  have HD := Lib.hid (fun w' => drawn_any (σ.word 0) hx w')
  have HB : Hid (∀ w1, Rep A σ.tick w1 → Grow A.L w A.L w1 → ∀ W3, (w1.alloc (.cells #[.int .u64 (σ.word 0 : Int)] 24)).alloc (.cells #[.int .u64 (timeOf (σ.word 0) : Int)] 24) = W3 → ∀ n w5, W3.drewN n = w5 → Rep A σ.tick w5 ∧ Grow A.L w A.L w5 ∧ Fix A.L w5 w1.heap.size (.cells #[.int .u64 (σ.word 0 : Int)] 24) ∧ Fix A.L w5 (w1.heap.size + 1) (.cells #[.int .u64 (timeOf (σ.word 0) : Int)] 24) ∧ w5.cell? ⟨b0, 0, none⟩ = some (.pointer (some ⟨A.be, 0, none⟩)) ∧ w5.cell? ⟨b1, 0, none⟩ = some (.pointer (some ⟨A.bt s, 0, none⟩)) ∧ w5.cell? ⟨b2, 0, none⟩ = some (.pointer (some ⟨A.bc s, 0, none⟩)) ∧ w5.cell? ⟨A.be, 1, none⟩ = some (.int .u64 (σ.limit : Int)) ∧ W3.cell? ⟨w1.heap.size, 0, none⟩ = some (.int .u64 (σ.word 0 : Int)) ∧ W3.cell? ⟨w1.heap.size + 1, 0, none⟩ = some (.int .u64 (timeOf (σ.word 0) : Int)) ∧ W3.cell? ⟨b0, 0, none⟩ = some (.pointer (some ⟨A.be, 0, none⟩)) ∧ W3.cell? ⟨A.be, 1, none⟩ = some (.int .u64 (σ.limit : Int))) := by
    rintro w1 q1 q2 W3 rfl n w5 rfl
    obtain ⟨r3, g3, f0, f1⟩ := allocs2 q1 #[.int .u64 (σ.word 0 : Int)] 24 #[.int .u64 (timeOf (σ.word 0) : Int)] 24
    have gd := Grow.drewN A.L ((w1.alloc (.cells #[.int .u64 (σ.word 0 : Int)] 24)).alloc (.cells #[.int .u64 (timeOf (σ.word 0) : Int)] 24)) n
    have gg := (q2.trans g3).trans gd
    exact ⟨r3.drewN n, gg, f0.grow gd, f1.grow gd, (B0.grow gg).cell, (B1.grow gg).cell, (B2.grow gg).cell, (r3.drewN n).eng 1 rfl, f0.cell 0 rfl, f1.cell 0 rfl, (B0.grow (q2.trans g3)).cell, r3.eng 1 rfl⟩
  have HX := Lib.hid (And.intro B0 (And.intro B1 B2))
  have hrun : σ.run s .draw = (σ.tick, some (.turn (σ.word 0) (timeOf (σ.word 0)))) := by simp only [St.run]; rw [if_neg (show ¬ σ.tick.limit ≤ _ from ho), if_pos hl]
  rw [hrun]
  clear hR hx hcnt B0 B1 B2 hrun
  generalize σ.word 0 = x at *
  generalize timeOf x = now at *
  generalize lastOf x = last at *
  generalize σ.limit = lim at *
  have d1 : decide ((lim : Int) ≤ (now : Int)) = false := by simpa using ho
  have d2 : ((lim : Int) ≤ (now : Int)) = False := by simpa using ho
  have d3 : (lim ≤ now) = False := by simpa using ho
  have l1 : ((last : Int) == 0) = true := by simpa using hl
  have l2 : ((last : Int) = 0) = True := by simpa using hl
  clear ho hl
  go_enter Tryz.func113, Tryz.ntmps113
  go_wp2_with (first | (go_at_call 73; refine HL.out.mono ?_; rintro e w1 ⟨rfl, q1, q2⟩; obtain ⟨_, _, _, _, _, _, _, _, y1, y2, y3, y4⟩ := HB.out w1 q1 q2 _ rfl 0 _ rfl; have HQ := Lib.hid (And.intro q1 q2); clear q1 q2) | (go_at_call 59; refine (HD.out _).mono ?_; rintro e w' ⟨rfl, rfl⟩))
  generalize hw3 : (w1.alloc _).alloc _ = w3 at *
  go_quiet (fail)
  generalize hw5 : w3.drewN _ = w5
  obtain ⟨r5, g5, f0, f1, z0, z1, z2, z3, _⟩ := HB.out w1 HQ.out.1 HQ.out.2 w3 hw3 _ w5 hw5
  clear y1 y2 y3 y4 hw3 hw5
  obtain ⟨r6, g6, f2⟩ := allocs1 r5 #[.func (.func 114) #[] #[.pointer (some ⟨b0, 0, none⟩), .pointer (some ⟨w1.heap.size, 0, none⟩), .pointer (some ⟨w1.heap.size + 1, 0, none⟩), .pointer (some ⟨b1, 0, none⟩), .pointer (some ⟨b2, 0, none⟩)]] 130
  have u7 := f2.cell 0 (v := .func (.func 114) #[] #[.pointer (some ⟨b0, 0, none⟩), .pointer (some ⟨w1.heap.size, 0, none⟩), .pointer (some ⟨w1.heap.size + 1, 0, none⟩), .pointer (some ⟨b1, 0, none⟩), .pointer (some ⟨b2, 0, none⟩)]) rfl
  have HZ := Lib.hid (And.intro r6 (And.intro (g5.trans g6) (And.intro (f0.grow g6) (And.intro (f1.grow g6) f2))))
  clear r5 g5 f0 f1 r6 g6 f2
  go_wp2_with fail
  go_ret
  obtain ⟨r6, g6, f0, f1, f2⟩ := HZ.out
  obtain ⟨B0, B1, B2⟩ := HX.out
  exact ⟨A, _, rfl, r6, g6, Stay.refl _ _, _, _, _, _, _, rfl, B0.grow g6, f0.box, f1.box, B1.grow g6, B2.grow g6⟩
theorem k_draw_help {A : Book} {σ : St} {w : World} (hR : Rep A σ w) (s : Nat) (hx : σ.word 0 < 18446744073709551616) (hcnt : σ.count < 4000000000000000000) (b0 b1 b2 : Nat)
    (B0 : Box A.L w b0 (.pointer (some ⟨A.be, 0, none⟩))) (B1 : Box A.L w b1 (.pointer (some ⟨A.bt s, 0, none⟩))) (B2 : Box A.L w b2 (.pointer (some ⟨A.bc s, 0, none⟩))) (ho : ¬ σ.limit ≤ timeOf (σ.word 0)) (hl : lastOf (σ.word 0) ≠ 0) :
    Calls Tryz.prog 113 #[.pointer (some ⟨b0, 0, none⟩), .pointer (some ⟨b1, 0, none⟩), .pointer (some ⟨b2, 0, none⟩)] w (Ran A w s (σ.run s .draw)) := by
  have c0 := B0.cell
  have e2 : w.cell? ⟨A.be, 2, none⟩ = some (.pointer (some ⟨A.ba, 0, none⟩)) := hR.eng 2 rfl
  have HL := Lib.hid (load_i hR 0 0 rfl (by rw [hR.nw]; omega) hcnt)
  have HD := Lib.hid (fun w' => drawn_any (σ.word 0) hx w')
  have HB : Hid (∀ w1, Rep A σ.tick w1 → Grow A.L w A.L w1 → ∀ W3, (w1.alloc (.cells #[.int .u64 (σ.word 0 : Int)] 24)).alloc (.cells #[.int .u64 (timeOf (σ.word 0) : Int)] 24) = W3 → ∀ n w5, W3.drewN n = w5 → Rep A σ.tick w5 ∧ Grow A.L w A.L w5 ∧ Fix A.L w5 w1.heap.size (.cells #[.int .u64 (σ.word 0 : Int)] 24) ∧ Fix A.L w5 (w1.heap.size + 1) (.cells #[.int .u64 (timeOf (σ.word 0) : Int)] 24) ∧ w5.cell? ⟨b0, 0, none⟩ = some (.pointer (some ⟨A.be, 0, none⟩)) ∧ w5.cell? ⟨b1, 0, none⟩ = some (.pointer (some ⟨A.bt s, 0, none⟩)) ∧ w5.cell? ⟨b2, 0, none⟩ = some (.pointer (some ⟨A.bc s, 0, none⟩)) ∧ w5.cell? ⟨A.be, 1, none⟩ = some (.int .u64 (σ.limit : Int)) ∧ W3.cell? ⟨w1.heap.size, 0, none⟩ = some (.int .u64 (σ.word 0 : Int)) ∧ W3.cell? ⟨w1.heap.size + 1, 0, none⟩ = some (.int .u64 (timeOf (σ.word 0) : Int)) ∧ W3.cell? ⟨b0, 0, none⟩ = some (.pointer (some ⟨A.be, 0, none⟩)) ∧ W3.cell? ⟨A.be, 1, none⟩ = some (.int .u64 (σ.limit : Int))) := by
    rintro w1 q1 q2 W3 rfl n w5 rfl
    obtain ⟨r3, g3, f0, f1⟩ := allocs2 q1 #[.int .u64 (σ.word 0 : Int)] 24 #[.int .u64 (timeOf (σ.word 0) : Int)] 24
    have gd := Grow.drewN A.L ((w1.alloc (.cells #[.int .u64 (σ.word 0 : Int)] 24)).alloc (.cells #[.int .u64 (timeOf (σ.word 0) : Int)] 24)) n
    have gg := (q2.trans g3).trans gd
    exact ⟨r3.drewN n, gg, f0.grow gd, f1.grow gd, (B0.grow gg).cell, (B1.grow gg).cell, (B2.grow gg).cell, (r3.drewN n).eng 1 rfl, f0.cell 0 rfl, f1.cell 0 rfl, (B0.grow (q2.trans g3)).cell, r3.eng 1 rfl⟩
  have HX := Lib.hid (And.intro B0 (And.intro B1 B2))
  have hrun : σ.run s .draw = (σ.tick, some (.drawH (σ.word 0) (timeOf (σ.word 0)))) := by simp only [St.run]; rw [if_neg (show ¬ σ.tick.limit ≤ _ from ho), if_neg hl]
  rw [hrun]
  clear hR hx hcnt B0 B1 B2 hrun
  generalize σ.word 0 = x at *
  generalize timeOf x = now at *
  generalize lastOf x = last at *
  generalize σ.limit = lim at *
  have d1 : decide ((lim : Int) ≤ (now : Int)) = false := by simpa using ho
  have d2 : ((lim : Int) ≤ (now : Int)) = False := by simpa using ho
  have d3 : (lim ≤ now) = False := by simpa using ho
  have l1 : ((last : Int) == 0) = false := by simpa using hl
  have l2 : ((last : Int) = 0) = False := by simpa using hl
  clear ho hl
  go_enter Tryz.func113, Tryz.ntmps113
  go_wp2_with (first | (go_at_call 73; refine HL.out.mono ?_; rintro e w1 ⟨rfl, q1, q2⟩; obtain ⟨_, _, _, _, _, _, _, _, y1, y2, y3, y4⟩ := HB.out w1 q1 q2 _ rfl 0 _ rfl; have HQ := Lib.hid (And.intro q1 q2); clear q1 q2) | (go_at_call 59; refine (HD.out _).mono ?_; rintro e w' ⟨rfl, rfl⟩))
  generalize hw3 : (w1.alloc _).alloc _ = w3 at *
  go_quiet (fail)
  generalize hw5 : w3.drewN _ = w5
  obtain ⟨r5, g5, f0, f1, z0, z1, z2, z3, _⟩ := HB.out w1 HQ.out.1 HQ.out.2 w3 hw3 _ w5 hw5
  clear y1 y2 y3 y4 hw3 hw5
  obtain ⟨r6, g6, f2⟩ := allocs1 r5 #[.func (.func 114) #[] #[.pointer (some ⟨b0, 0, none⟩), .pointer (some ⟨w1.heap.size, 0, none⟩), .pointer (some ⟨w1.heap.size + 1, 0, none⟩), .pointer (some ⟨b1, 0, none⟩), .pointer (some ⟨b2, 0, none⟩)]] 130
  have u7 := f2.cell 0 (v := .func (.func 114) #[] #[.pointer (some ⟨b0, 0, none⟩), .pointer (some ⟨w1.heap.size, 0, none⟩), .pointer (some ⟨w1.heap.size + 1, 0, none⟩), .pointer (some ⟨b1, 0, none⟩), .pointer (some ⟨b2, 0, none⟩)]) rfl
  have HZ := Lib.hid (And.intro r6 (And.intro (g5.trans g6) (And.intro (f0.grow g6) (And.intro (f1.grow g6) f2))))
  clear r5 g5 f0 f1 r6 g6 f2
  go_wp2_with fail
  go_ret
  obtain ⟨r6, g6, f0, f1, f2⟩ := HZ.out
  obtain ⟨B0, B1, B2⟩ := HX.out
  exact ⟨A, _, rfl, r6, g6, Stay.refl _ _, _, _, _, rfl, B0.grow g6, f0.box, _, f2.box, _, _, _, _, _, rfl, B0.grow g6, f0.box, f1.box, B1.grow g6, B2.grow g6⟩
theorem k_draw {A : Book} {σ : St} {w : World} (hR : Rep A σ w) (s : Nat) (hx : σ.word 0 < 18446744073709551616) (hcnt : σ.count < 4000000000000000000) (b0 b1 b2 : Nat)
    (B0 : Box A.L w b0 (.pointer (some ⟨A.be, 0, none⟩))) (B1 : Box A.L w b1 (.pointer (some ⟨A.bt s, 0, none⟩))) (B2 : Box A.L w b2 (.pointer (some ⟨A.bc s, 0, none⟩))) :
    Calls Tryz.prog 113 #[.pointer (some ⟨b0, 0, none⟩), .pointer (some ⟨b1, 0, none⟩), .pointer (some ⟨b2, 0, none⟩)] w (Ran A w s (σ.run s .draw)) := by
  by_cases ho : σ.limit ≤ timeOf (σ.word 0)
  · exact k_draw_over hR s hx hcnt b0 b1 b2 B0 B1 B2 ho
  · by_cases hl : lastOf (σ.word 0) = 0
    · exact k_draw_turn hR s hx hcnt b0 b1 b2 B0 B1 B2 ho hl
    · exact k_draw_help hR s hx hcnt b0 b1 b2 B0 B1 B2 ho hl
theorem k_turn_miss {A : Book} {σ : St} {w : World} (hR : Rep A σ w) (s : Nat) (t : Txn) (ht : σ.txns.getD s none = some t) (x now : Nat) (hn : now < 281474976710655) (hid : t.id < 65536) (htl : σ.tale.length < 1000000) (hcnt : σ.count < 4000000000000000000) (b0 b1 b2 b3 b4 : Nat)
    (B0 : Box A.L w b0 (.pointer (some ⟨A.be, 0, none⟩))) (B1 : Box A.L w b1 (.int .u64 (x : Int))) (B2 : Box A.L w b2 (.int .u64 (now : Int))) (B3 : Box A.L w b3 (.pointer (some ⟨A.bt s, 0, none⟩))) (B4 : Box A.L w b4 (.pointer (some ⟨A.bc s, 0, none⟩))) (hm : σ.word 0 ≠ x) :
    Calls Tryz.prog 114 #[.pointer (some ⟨b0, 0, none⟩), .pointer (some ⟨b1, 0, none⟩), .pointer (some ⟨b2, 0, none⟩), .pointer (some ⟨b3, 0, none⟩), .pointer (some ⟨b4, 0, none⟩)] w (Ran A w s (σ.run s (.turn x now))) := by
  have c0 := B0.cell
  have c1 := B1.cell
  have c2 := B2.cell
  have c3 := B3.cell
  have e2 : w.cell? ⟨A.be, 2, none⟩ = some (.pointer (some ⟨A.ba, 0, none⟩)) := hR.eng 2 rfl
  have t0 : w.cell? ⟨A.bt s, 0, none⟩ = some (.int .i64 (t.id : Int)) := hR.txn ht 0 rfl
  have n1 : IntKind.u64.wrap ((now : Int) + 1) = (now : Int) + 1 := by rw [IntKind.wrap_u64]; omega
  have hk : Calls Tryz.prog 76 #[.int .u64 ((now : Int) + 1), .int .i64 (t.id : Int)] w.drew fun e w' => e = .returned (.int .u64 ((clockW (now + 1) t.id : Nat) : Int)) ∧ w' = w.drew := flip (clock_any (now + 1) t.id (by omega) hid w.drew)
  have HC := Lib.hid hk
  have HL := Lib.hid (cas_i hR.drew 0 x (clockW (now + 1) t.id) 0 rfl (by rw [hR.nw]; omega) hcnt)
  have HG : Hid (Grow A.L w A.L w.drew) := Grow.drew _ _
  have hrun : σ.run s (.turn x now) = (σ.tick, some .draw) := by simp [St.run, St.cas, hm]
  rw [hrun]
  have hb : (σ.word 0 == x) = false := by simpa using hm
  have hcs : σ.cas 0 x (clockW (now + 1) t.id) = σ.tick := if_neg hm
  rw [hb, hcs] at HL
  have HB : Hid (∀ w1, Rep A σ.tick w1 → Grow A.L w A.L w1 → Calls Tryz.prog 84 #[.pointer (some ⟨A.be, 0, none⟩), .pointer (some ⟨A.bt s, 0, none⟩), .pointer (some ⟨A.bc s, 0, none⟩)] w1 (Tells A w1 s (σ.tick, .draw)) ∧ w1.cell? ⟨b0, 0, none⟩ = some (.pointer (some ⟨A.be, 0, none⟩)) ∧ w1.cell? ⟨b3, 0, none⟩ = some (.pointer (some ⟨A.bt s, 0, none⟩)) ∧ w1.cell? ⟨b4, 0, none⟩ = some (.pointer (some ⟨A.bc s, 0, none⟩))) :=
    fun w1 q g => ⟨draw_any q s, (B0.grow g).cell, (B3.grow g).cell, (B4.grow g).cell⟩
  clear hR ht hn hid htl hcnt B0 B1 B2 B3 B4 hm hrun hb hcs hk
  go_enter Tryz.func114, Tryz.ntmps114
  go_wp2_with fail
  refine wp_region_still_tail 12 (by kernel_rfl) (by kernel_rfl) ?_
  simp only [List.take_succ_cons, List.take_zero, List.drop_succ_cons, List.drop_zero]
  repeat still_step
  still_call HC.out
  refine wpStill_nil ?_
  change wpList _ _ _ _ _ w.drew
  generalize w.drew = wd at *
  go_wp2_with (first | (go_at_call 75; refine HL.out.mono ?_; rintro e w1 ⟨rfl, q1, q2⟩; have g1 := HG.out.trans q2; obtain ⟨hf, d0, d3, d4⟩ := HB.out w1 q1 g1; have HQ := Lib.hid (And.intro hf g1); clear q1 q2 g1 hf) | (go_at_call 84; refine HQ.out.1.mono ?_; rintro e w2 ⟨A2, v, rfl, p1, p2, p3, p4⟩))
  go_ret
  exact ⟨A2, v, rfl, p1, HQ.out.2.trans p2, p3, p4⟩
theorem k_turn_hit {A : Book} {σ : St} {w : World} (hR : Rep A σ w) (s : Nat) (t : Txn) (ht : σ.txns.getD s none = some t) (x now : Nat) (hn : now < 281474976710655) (hid : t.id < 65536) (htl : σ.tale.length < 1000000) (hcnt : σ.count < 4000000000000000000) (b0 b1 b2 b3 b4 : Nat)
    (B0 : Box A.L w b0 (.pointer (some ⟨A.be, 0, none⟩))) (B1 : Box A.L w b1 (.int .u64 (x : Int))) (B2 : Box A.L w b2 (.int .u64 (now : Int))) (B3 : Box A.L w b3 (.pointer (some ⟨A.bt s, 0, none⟩))) (B4 : Box A.L w b4 (.pointer (some ⟨A.bc s, 0, none⟩))) (hm : σ.word 0 = x) :
    Calls Tryz.prog 114 #[.pointer (some ⟨b0, 0, none⟩), .pointer (some ⟨b1, 0, none⟩), .pointer (some ⟨b2, 0, none⟩), .pointer (some ⟨b3, 0, none⟩), .pointer (some ⟨b4, 0, none⟩)] w (Ran A w s (σ.run s (.turn x now))) := by
  have c0 := B0.cell
  have c1 := B1.cell
  have c2 := B2.cell
  have c3 := B3.cell
  have e2 : w.cell? ⟨A.be, 2, none⟩ = some (.pointer (some ⟨A.ba, 0, none⟩)) := hR.eng 2 rfl
  have t0 : w.cell? ⟨A.bt s, 0, none⟩ = some (.int .i64 (t.id : Int)) := hR.txn ht 0 rfl
  have n1 : IntKind.u64.wrap ((now : Int) + 1) = (now : Int) + 1 := by rw [IntKind.wrap_u64]; omega
  have hk : Calls Tryz.prog 76 #[.int .u64 ((now : Int) + 1), .int .i64 (t.id : Int)] w.drew fun e w' => e = .returned (.int .u64 ((clockW (now + 1) t.id : Nat) : Int)) ∧ w' = w.drew := flip (clock_any (now + 1) t.id (by omega) hid w.drew)
  have HC := Lib.hid hk
  have HL := Lib.hid (cas_i hR.drew 0 x (clockW (now + 1) t.id) 0 rfl (by rw [hR.nw]; omega) hcnt)
  have HG : Hid (Grow A.L w A.L w.drew) := Grow.drew _ _
  have hrun : σ.run s (.turn x now) = (((σ.put 0 (clockW (now + 1) t.id)).setT s { t with end_ := now + 1 }).event { kind := 3, t := t.id, n := now + 1 }, some .helpJ) := by
    have e : ∀ σ' : St, σ'.txns = σ.txns → σ'.t s = t := fun σ' h => by unfold St.t; rw [h, ht]; rfl
    simp [St.run, St.cas, hm, e _ (show (σ.put 0 (clockW (now + 1) t.id)).txns = σ.txns from rfl), e σ rfl]
  rw [hrun]
  have hb : (σ.word 0 == x) = true := by simpa using hm
  have hcs : σ.cas 0 x (clockW (now + 1) t.id) = σ.put 0 (clockW (now + 1) t.id) := if_pos hm
  rw [hb, hcs] at HL
  have HB : Hid (∀ w1, Rep A (σ.put 0 (clockW (now + 1) t.id)) w1 → Grow A.L w A.L w1 → w1.cell? ⟨b2, 0, none⟩ = some (.int .u64 (now : Int)) ∧ w1.cell? ⟨b3, 0, none⟩ = some (.pointer (some ⟨A.bt s, 0, none⟩)) ∧ w1.cell? ⟨A.bt s, 4, none⟩ = some (.int .u64 (t.end_ : Int)) ∧ w1.frozen? ⟨A.bt s, 4, none⟩ = false ∧
      (∀ ws, w1.setCell ⟨A.bt s, 4, none⟩ (.int .u64 ((now : Int) + 1)) = ws → ws.cell? ⟨b0, 0, none⟩ = some (.pointer (some ⟨A.be, 0, none⟩)) ∧ ws.cell? ⟨b3, 0, none⟩ = some (.pointer (some ⟨A.bt s, 0, none⟩)) ∧ ws.cell? ⟨A.bt s, 0, none⟩ = some (.int .i64 (t.id : Int)) ∧ ws.cell? ⟨A.bt s, 4, none⟩ = some (.int .u64 ((now : Int) + 1)) ∧ Grow A.L w A.L ws ∧
        Calls Tryz.prog 53 #[.pointer (some ⟨A.be, 0, none⟩), .agg #[.int .i64 3, .int .i64 (t.id : Int), .int .u64 ((now : Int) + 1), .int .i64 0, .int .i64 0, .int .i64 0, .int .i64 0, .int .i64 0, .int .i64 0, .slice none 0 0, .int .i64 0, .int .i64 0]] ws.drew (Does A ws.drew s (((σ.put 0 (clockW (now + 1) t.id)).setT s { t with end_ := now + 1 }).event { kind := 3, t := t.id, n := now + 1 }) (.tuple #[])))) := by
    intro w1 q g
    have ht1 : (σ.put 0 (clockW (now + 1) t.id)).txns.getD s none = some t := ht
    refine ⟨(B2.grow g).cell, (B3.grow g).cell, q.txn ht1 4 rfl, q.txnF ht1 4, ?_⟩
    rintro ws rfl
    obtain ⟨r2, g2⟩ := q.setTxn ht1 { t with end_ := now + 1 } 4 (.int .u64 ((now : Int) + 1)) (by simp [txnCs]) rfl rfl rfl rfl
    have ht2 : ((σ.put 0 (clockW (now + 1) t.id)).setT s { t with end_ := now + 1 }).txns.getD s none = some { t with end_ := now + 1 } := by rw [getT_set (lt_of_txn ht1), if_pos rfl]
    have gg := g.trans g2
    exact ⟨(B0.grow gg).cell, (B3.grow gg).cell, r2.txn ht2 0 rfl, r2.txn ht2 4 rfl, gg, event_any r2.drew s _ 3 t.id (now + 1) 0 0 0 0 0 0 0 0 none 0 0 rfl (PRow.nil _ _) htl⟩
  have HX := Lib.hid (And.intro B0 (And.intro B3 B4))
  clear hR ht hn hid htl hcnt B0 B1 B2 B3 B4 hm hrun hb hcs hk
  go_enter Tryz.func114, Tryz.ntmps114
  go_wp2_with fail
  refine wp_region_still_tail 12 (by kernel_rfl) (by kernel_rfl) ?_
  simp only [List.take_succ_cons, List.take_zero, List.drop_succ_cons, List.drop_zero]
  repeat still_step
  still_call HC.out
  refine wpStill_nil ?_
  change wpList _ _ _ _ _ w.drew
  generalize w.drew = wd at *
  go_wp2_with (go_at_call 75; refine HL.out.mono ?_; rintro e w1 ⟨rfl, q1, q2⟩; have g1 := HG.out.trans q2; obtain ⟨d2, d3, d4, d5, hf⟩ := HB.out w1 q1 g1; have HQ := Lib.hid hf; clear q1 q2 g1 hf)
  generalize hws : World.setCell _ _ _ = ws
  obtain ⟨a0, a3, a5, a4, gg, hf⟩ := HQ.out ws hws
  have HE := Lib.hid (And.intro hf gg)
  clear d2 d3 d4 d5 hf gg hws HQ
  refine wp_region_still_tail 10 (by kernel_rfl) (by kernel_rfl) ?_
  simp only [List.take_succ_cons, List.take_zero, List.drop_succ_cons, List.drop_zero]
  repeat still_step
  refine wpStill_nil ?_
  change wpList _ _ _ _ _ ws.drew
  have HG2 : Hid (Grow A.L ws A.L ws.drew) := Grow.drew _ _
  generalize ws.drew = wd2 at *
  go_wp2_with (go_at_call 53; refine HE.out.1.mono ?_; rintro e w2 ⟨rfl, A2, p1, p2, p3, p4, p5⟩; have HR := Lib.hid (And.intro p1 (And.intro p2 (And.intro p3 (And.intro p4 p5)))); clear p1 p2 p3 p4 p5)
  go_ret
  obtain ⟨p1, p2, p3, p4, p5⟩ := HR.out
  obtain ⟨B0, B3, B4⟩ := HX.out
  have g3 := (HE.out.2.trans HG2.out).trans p2
  refine ⟨A2, _, rfl, p1, g3, p3, ?_⟩
  have ek : kp A2 (((σ.put 0 (clockW (now + 1) t.id)).setT s { t with end_ := now + 1 }).event { kind := 3, t := t.id, n := now + 1 }) s = kp A σ s := kp_same p3 p4 p5 rfl rfl
  show KRep (kp A2 _ s) _ _ _ _
  rw [ek]
  exact ⟨_, _, _, rfl, B0.grow g3, B3.grow g3, B4.grow g3⟩
theorem k_turn {A : Book} {σ : St} {w : World} (hR : Rep A σ w) (s : Nat) (t : Txn) (ht : σ.txns.getD s none = some t) (x now : Nat) (hn : now < 281474976710655) (hid : t.id < 65536) (htl : σ.tale.length < 1000000) (hcnt : σ.count < 4000000000000000000) (b0 b1 b2 b3 b4 : Nat)
    (B0 : Box A.L w b0 (.pointer (some ⟨A.be, 0, none⟩))) (B1 : Box A.L w b1 (.int .u64 (x : Int))) (B2 : Box A.L w b2 (.int .u64 (now : Int))) (B3 : Box A.L w b3 (.pointer (some ⟨A.bt s, 0, none⟩))) (B4 : Box A.L w b4 (.pointer (some ⟨A.bc s, 0, none⟩))) :
    Calls Tryz.prog 114 #[.pointer (some ⟨b0, 0, none⟩), .pointer (some ⟨b1, 0, none⟩), .pointer (some ⟨b2, 0, none⟩), .pointer (some ⟨b3, 0, none⟩), .pointer (some ⟨b4, 0, none⟩)] w (Ran A w s (σ.run s (.turn x now))) := by
  by_cases hm : σ.word 0 = x
  · exact k_turn_hit hR s t ht x now hn hid htl hcnt b0 b1 b2 b3 b4 B0 B1 B2 B3 B4 hm
  · exact k_turn_miss hR s t ht x now hn hid htl hcnt b0 b1 b2 b3 b4 B0 B1 B2 B3 B4 hm
end Go.Proofs.YtbefcdjcefmicaaGreat.Em

namespace Go.Proofs.YtbefcdjcefmicaaGreat.Em
open Go.ChangeShapes Go.WideShapes Go.ChangeAt Go.RowKit En
set_option linter.unusedVariables false
set_option linter.unusedSimpArgs false
set_option maxRecDepth 100000
set_option maxHeartbeats 400000

/-- A call has ended: no step is told. -/
theorem finish_any {A : Book} {σ : St} {w : World} (hR : Rep A σ w) (s : Nat) (c : Cal) (hc : σ.calls.getD s none = some c) (r : Res) (a : Option Addr) (pn pc : Nat) (vp : Value) (hvp : vp = .slice a pn pc)
    (hp : (vp = A.vpairs s ∧ r.pairs = c.r.pairs) ∨ (vp = .slice none 0 0 ∧ r.pairs = [])) :
    Calls Tryz.prog 138 #[.pointer (some ⟨A.be, 0, none⟩), .pointer (some ⟨A.bc s, 0, none⟩), .agg #[.int .i64 (r.e : Int), .int .i64 (r.value : Int), vp, .int .i64 (r.over : Int), .int .i64 (r.reason : Int)]] w (Ran A w s (σ.finish s r, none)) := by
  obtain ⟨r1, g1, f0⟩ := allocs1 hR #[.int .i64 (r.e : Int), .int .i64 (r.value : Int), vp, .int .i64 (r.over : Int), .int .i64 (r.reason : Int)] 42
  obtain ⟨r2, g2⟩ := r1.resSet hc r vp hp
  have hc2 : (σ.setC s { c with r := r }).calls.getD s none = some { c with r := r } := by rw [getC_set (lt_of_call hc), if_pos rfl]
  obtain ⟨r3, g3⟩ := r2.setCall hc2 { c with r := r, over := true } 11 (.bool true) rfl rfl
  have c11 := r2.call hc2 11 (v := .bool c.over) rfl
  have z11 := r2.callF hc2 11
  have ht : (w.alloc (.cells #[.int .i64 (r.e : Int), .int .i64 (r.value : Int), vp, .int .i64 (r.over : Int), .int .i64 (r.reason : Int)] 42)).there (A.bc s) 5 5 := by
    intro j hj
    refine ⟨?_, r1.callF hc _⟩
    match j, hj with
    | 0, _ => rw [r1.call hc 5 rfl]; rfl
    | 1, _ => rw [r1.call hc 6 rfl]; rfl
    | 2, _ => rw [r1.call hc 7 rfl]; rfl
    | 3, _ => rw [r1.call hc 8 rfl]; rfl
    | 4, _ => rw [r1.call hc 9 rfl]; rfl
  have b0 := f0.cell 0 (v := .int .i64 (r.e : Int)) rfl
  have b1 := f0.cell 1 (v := .int .i64 (r.value : Int)) rfl
  have b2 := f0.cell 2 (v := vp) rfl
  have b3 := f0.cell 3 (v := .int .i64 (r.over : Int)) rfl
  have b4 := f0.cell 4 (v := .int .i64 (r.reason : Int)) rfl
  have e : σ.finish s r = (σ.setC s { c with r := r }).setC s { c with r := r, over := true } := by
    unfold St.finish St.setC
    rw [call_get hc]
    simp
  rw [e]
  have HR : Hid (∀ ws, ws = (w.alloc (.cells #[.int .i64 (r.e : Int), .int .i64 (r.value : Int), vp, .int .i64 (r.over : Int), .int .i64 (r.reason : Int)] 42)).setCells (A.bc s) 5 [.int .i64 (r.e : Int), .int .i64 (r.value : Int), vp, .int .i64 (r.over : Int), .int .i64 (r.reason : Int)] → ws.cell? ⟨A.bc s, 11, none⟩ = some (.bool c.over) ∧ ws.frozen? ⟨A.bc s, 11, none⟩ = false ∧ Rep (A.resPairs s vp) ((σ.setC s { c with r := r }).setC s { c with r := r, over := true }) (ws.setCell ⟨A.bc s, 11, none⟩ (.bool true)) ∧ Grow A.L w A.L (ws.setCell ⟨A.bc s, 11, none⟩ (.bool true))) := by
    rintro ws rfl
    exact ⟨c11, z11, r3, (g1.trans g2).trans g3⟩
  have HT := Lib.hid ht
  clear hR hc r1 g1 f0 r2 g2 hc2 r3 g3 ht e hp c11 z11
  subst hvp
  go_enter Tryz.func138, Tryz.ntmps138
  go_wp2_with (refine wpList_store_mid rfl 42 (.tmp 10) (.tmp 8) rfl (A.bc s) 5 #[.int .i64 (r.e : Int), .int .i64 (r.value : Int), .slice a pn pc, .int .i64 (r.over : Int), .int .i64 (r.reason : Int)] rfl rfl HT.out (by kernel_rfl) (by simp [Value.oneCell']) ?_; generalize hws : World.setCells _ _ _ _ = ws; obtain ⟨k1, k2, k3⟩ := HR.out ws hws.symm; have HK := Lib.hid k3; clear k3 hws)
  go_ret
  exact ⟨_, _, rfl, HK.out.1, HK.out.2, ⟨rfl, rfl, rfl, rfl, rfl, rfl, rfl, rfl, rfl, rfl, rfl, fun _ _ => rfl, fun k hk => upF_other _ _ hk⟩, rfl⟩
theorem k_fin {A : Book} {σ : St} {w : World} (hR : Rep A σ w) (s : Nat) (c : Cal) (hc : σ.calls.getD s none = some c) (r : Res) (b0 b1 b2 : Nat) (B0 : Box A.L w b0 (.pointer (some ⟨A.be, 0, none⟩))) (B1 : Box A.L w b1 (.pointer (some ⟨A.bc s, 0, none⟩))) (B2 : ResBox (kp A σ s) A.L w b2 r) :
    Calls Tryz.prog 137 #[.pointer (some ⟨b0, 0, none⟩), .pointer (some ⟨b1, 0, none⟩), .pointer (some ⟨b2, 0, none⟩)] w (Ran A w s (σ.run s (.fin r))) := by
  obtain ⟨vp, TT, F2, hp⟩ := B2
  have hps : (kp A σ s).ps = c.r.pairs := by show (σ.c s).r.pairs = _; rw [call_get hc]
  rw [hps] at hp
  have hform : ∃ a n cap, vp = .slice a n cap := by
    rcases hp with ⟨h1, _⟩ | ⟨h1, _⟩
    · have hown := hR.mem.all (.pairs s)
      rw [mem_pairs hc] at hown
      obtain ⟨a, cap, h2, _⟩ := Ow.own_form hown.1
      exact ⟨a, _, cap, h1.trans h2⟩
    · exact ⟨none, 0, 0, h1⟩
  obtain ⟨a, pn, pc, hvp⟩ := hform
  have HF := Lib.hid (finish_any hR s c hc r a pn pc vp hvp hp)
  have c0 := B0.cell
  have c1 := B1.cell
  have d0 := F2.cell 0 (v := .int .i64 (r.e : Int)) rfl
  have d1 := F2.cell 1 (v := .int .i64 (r.value : Int)) rfl
  have d2 := F2.cell 2 (v := vp) rfl
  have d3 := F2.cell 3 (v := .int .i64 (r.over : Int)) rfl
  have d4 := F2.cell 4 (v := .int .i64 (r.reason : Int)) rfl
  clear hR hc B0 B1 F2 hp hps
  subst hvp
  go_enter Tryz.func137, Tryz.ntmps137
  go_wp2_with (go_at_call 138; refine HF.out.mono ?_; rintro e w2 ⟨A2, v, rfl, p1, p2, p3, rfl⟩)
  go_ret
  exact ⟨A2, _, rfl, p1, p2, p3, rfl⟩
end Go.Proofs.YtbefcdjcefmicaaGreat.Em

namespace Go.Proofs.YtbefcdjcefmicaaGreat.Em
open Go.ChangeShapes Go.WideShapes Go.ChangeAt Go.RowKit En
set_option linter.unusedVariables false
set_option linter.unusedSimpArgs false
set_option maxRecDepth 100000
set_option maxHeartbeats 1600000

/-- A function has done its part; the session's transaction is told. -/
def Told (A : Book) (w : World) (s : Nat) (σ' : St) : Ending → World → Prop := fun e w' => e = .returned (.tuple #[]) ∧ ∃ A', Rep A' σ' w' ∧ Grow A.L w A'.L w' ∧ Stay A A' s ∧ A'.bx = A.bx ∧ A'.vpairs = A.vpairs
theorem tell1_any {A : Book} {σ : St} {w : World} (hR : Rep A σ w) (s : Nat) (t : Txn) (ht : σ.txns.getD s none = some t) (e : Ev) (kk tt rr : Int) (hcs : evCs e (.slice none 0 0) = [.int .i64 kk, .int .i64 tt, .int .u64 0, .int .i64 0, .int .i64 0, .int .i64 0, .int .i64 0, .int .i64 0, .int .i64 0, .slice none 0 0, .int .i64 0, .int .i64 rr]) (hp : e.res.pairs = []) (hn : σ.tale.length < 1000000) (b0 b1 b2 : Nat) (B0 : Box A.L w b0 (.pointer (some ⟨A.bt s, 0, none⟩))) (B1 : Box A.L w b1 (.pointer (some ⟨A.be, 0, none⟩))) (TT : TypeId) (X2 : Fix A.L w b2 (.cells #[.int .i64 kk, .int .i64 tt, .int .u64 0, .int .i64 0, .int .i64 0, .int .i64 0, .int .i64 0, .int .i64 0, .int .i64 0, .slice none 0 0, .int .i64 0, .int .i64 rr] TT)) :
    Calls Tryz.prog 144 #[.pointer (some ⟨b0, 0, none⟩), .pointer (some ⟨b1, 0, none⟩), .pointer (some ⟨b2, 0, none⟩)] w (Told A w s (σ.event e)) := by
  have c0 := B0.cell
  have t13 : w.cell? ⟨A.bt s, 13, none⟩ = some (.bool (A.vover s)) := hR.txn ht 13 rfl
  have z13 := hR.txnF ht 13
  obtain ⟨r1, g1⟩ := hR.txnOver ht true
  have B1' := (B1.grow g1).cell
  have X2' := X2.grow g1
  have x0 := X2'.cell 0 (v := .int .i64 kk) rfl
  have x1 := X2'.cell 1 (v := .int .i64 tt) rfl
  have x2 := X2'.cell 2 (v := .int .u64 0) rfl
  have x3 := X2'.cell 3 (v := .int .i64 0) rfl
  have x4 := X2'.cell 4 (v := .int .i64 0) rfl
  have x5 := X2'.cell 5 (v := .int .i64 0) rfl
  have x6 := X2'.cell 6 (v := .int .i64 0) rfl
  have x7 := X2'.cell 7 (v := .int .i64 0) rfl
  have x8 := X2'.cell 8 (v := .int .i64 0) rfl
  have x9 := X2'.cell 9 (v := .slice none 0 0) rfl
  have x10 := X2'.cell 10 (v := .int .i64 0) rfl
  have x11 := X2'.cell 11 (v := .int .i64 rr) rfl
  have he := event_any r1 s e kk tt 0 0 0 0 0 0 0 0 rr none 0 0 hcs (by rw [hp]; exact PRow.nil _ _) hn
  have HE := Lib.hid (And.intro he g1)
  clear hR ht B0 B1 X2 X2' r1 g1 he hcs hp hn
  go_enter Tryz.func144, Tryz.ntmps144
  go_wp2_with (go_at_call 53; refine HE.out.1.mono ?_; rintro e' w2 ⟨rfl, A2, q1, q2, q3, q4, q5⟩)
  go_end0
  exact ⟨rfl, A2, q1, HE.out.2.trans q2, ⟨q3.be, q3.ba, q3.bp, q3.bt, q3.bm, q3.bc, q3.vnext, q3.vcall, q3.vsweep, q3.mp, q3.mt, q3.bx, q3.vpairs⟩, q4, q5⟩
theorem tell_any {A : Book} {σ : St} {w : World} (hR : Rep A σ w) (s : Nat) (t : Txn) (ht : σ.txns.getD s none = some t) (hm : A.mt s = 0) (e : Ev) (kk tt rr : Int) (hcs : evCs e (.slice none 0 0) = [.int .i64 kk, .int .i64 tt, .int .u64 0, .int .i64 0, .int .i64 0, .int .i64 0, .int .i64 0, .int .i64 0, .int .i64 0, .slice none 0 0, .int .i64 0, .int .i64 rr]) (hp : e.res.pairs = []) (hn : σ.tale.length < 1000000) :
    Calls Tryz.prog 119 #[.pointer (some ⟨A.be, 0, none⟩), .pointer (some ⟨A.bt s, 0, none⟩), .agg #[.int .i64 kk, .int .i64 tt, .int .u64 0, .int .i64 0, .int .i64 0, .int .i64 0, .int .i64 0, .int .i64 0, .int .i64 0, .slice none 0 0, .int .i64 0, .int .i64 rr]] w (Told A w s (σ.tellEnd s e)) := by
  obtain ⟨r3, g3, f0, f1, f2⟩ := allocs3 hR #[.pointer (some ⟨A.be, 0, none⟩)] 27 #[.pointer (some ⟨A.bt s, 0, none⟩)] 102 #[.int .i64 kk, .int .i64 tt, .int .u64 0, .int .i64 0, .int .i64 0, .int .i64 0, .int .i64 0, .int .i64 0, .int .i64 0, .slice none 0 0, .int .i64 0, .int .i64 rr] 138
  have a1 := f1.cell 0 (v := .pointer (some ⟨A.bt s, 0, none⟩)) rfl
  by_cases ho : t.over = true
  · have e0 : σ.tellEnd s e = σ := by unfold St.tellEnd; rw [txn_get ht, if_pos ho]
    rw [e0]
    have t10 := r3.txn ht 10 (v := .int .u32 1) (by simp [txnCs, onceCs, ho])
    have HD := Lib.hid (fun fv => do_done ⟨A.bt s, 10, none⟩ fv _ t10)
    have HR := Lib.hid (And.intro r3 g3)
    clear hR ht r3 g3 f0 f1 f2 hm hcs hp hn ho e0 t10
    go_enter Tryz.func119, Tryz.ntmps119
    go_wp2_with (go_at_call 143; refine (HD.out _).mono ?_; rintro e' w2 ⟨rfl, rfl⟩)
    go_end0
    exact ⟨rfl, A, HR.out.1, HR.out.2, Stay.refl _ _, rfl, rfl⟩
  · have ho' : t.over = false := by simpa using ho
    have e0 : σ.tellEnd s e = (σ.setT s { t with over := true }).event e := by unfold St.tellEnd; rw [txn_get ht, if_neg ho]
    rw [e0]
    have t10 := r3.txn ht 10 (v := .int .u32 0) (by simp [txnCs, onceCs, ho'])
    have t11 := r3.txn ht 11 (v := .int .i32 0) (by simp [txnCs, onceCs, hm])
    have z10 := r3.txnF ht 10
    have z11 := r3.txnF ht 11
    obtain ⟨r4, g4⟩ := r3.txnLock ht 1
    have hf := tell1_any r4 s t ht e kk tt rr hcs hp hn (w.heap.size + 1) w.heap.size (w.heap.size + 1 + 1) (f1.box.grow g4) (f0.box.grow g4) _ (f2.grow g4)
    have hd := do_first (A.bt s) 10 144 #[.pointer (some ⟨w.heap.size + 1, 0, none⟩), .pointer (some ⟨w.heap.size, 0, none⟩), .pointer (some ⟨w.heap.size + 1 + 1, 0, none⟩)] _ _ t10 t11 z10 z11 (enter_tell _) hf (by
      rintro w' ⟨A', q1, q2, q3, q4, q5⟩
      have ht' : (σ.event e).txns.getD s none = some t := ht
      have b10 := q1.txn ht' 10 (v := .int .u32 0) (by simp [txnCs, onceCs, ho'])
      have b11 := q1.txn ht' 11 (v := .int .i32 1) (by simp [txnCs, onceCs, q3.mt])
      have y10 := q1.txnF ht' 10
      have y11 := q1.txnF ht' 11
      rw [q3.bt] at b10 b11 y10 y11
      exact ⟨b10, b11, y10, y11⟩)
    have HD := Lib.hid hd
    have HR := Lib.hid (And.intro g3 g4)
    have HT := Lib.hid (And.intro ht hm)
    clear hR ht r3 g3 f0 f1 f2 hm hcs hp hn ho ho' e0 t10 t11 z10 z11 r4 g4 hf hd
    go_enter Tryz.func119, Tryz.ntmps119
    go_wp2_with (go_at_call 143; refine HD.out.mono ?_; rintro e' w2 ⟨rfl, w3, ⟨A', q1, q2, q3, q4, q5⟩, rfl⟩)
    go_end0
    have ht' : (σ.event e).txns.getD s none = some t := HT.out.1
    obtain ⟨k1, g5⟩ := q1.drew.txnDone ht'
    have ht2 : ((σ.event e).setT s { t with over := true }).txns.getD s none = some { t with over := true } := by rw [getT_set (lt_of_txn ht'), if_pos rfl]
    obtain ⟨k2, g6⟩ := k1.txnLock ht2 0
    have gg := ((((HR.out.1.trans HR.out.2).trans q2).trans (Grow.drew _ _)).trans g5).trans g6
    have eb : A'.bt s = A.bt s := by rw [q3.bt]
    rw [eb] at k2 gg
    refine ⟨rfl, _, k2, gg, ⟨q3.be, q3.ba, q3.bp, q3.bt, q3.bm, q3.bc, q3.vnext, q3.vcall, q3.vsweep, q3.mp, ?_, q3.bx, q3.vpairs⟩, q4, q5⟩
    show (fun k => if k = s then 0 else A'.mt k) = A.mt
    rw [q3.mt]
    funext k
    show (if k = s then 0 else if k = s then 1 else A.mt k) = A.mt k
    by_cases hk : k = s
    · rw [if_pos hk, hk, HT.out.2]
    · rw [if_neg hk, if_neg hk]
end Go.Proofs.YtbefcdjcefmicaaGreat.Em
