/- Texts of this claim, laid together: Hh, Hi, Hj, On, Oo, Pa, Pb, Pc, Hf, Hg, He, Ka. -/
import Derived.Test.YtbefcdjcefmicaaGreatBase4
import Derived.MapKept
import Derived.Laws.EntriesVeiled
import Derived.Laws.LoneSync
namespace Go.Proofs.YtbefcdjcefmicaaGreat.Em
open Go.ChangeShapes Go.WideShapes Go.ChangeAt Go.RowKit En
set_option linter.unusedVariables false
set_option linter.unusedSimpArgs false
set_option maxRecDepth 100000
set_option maxHeartbeats 1000000

/-- Entries by whole numbers. -/
def ent (f : Nat → Nat) (p : Nat × Nat) : MapEntry := ⟨.int .i64 (p.1 : Int), ptr (f p.1), p.2⟩
theorem findNow_ent (f : Nat → Nat) (key : Nat) : ∀ (l : List (Nat × Nat)) (i : Nat), Instr.findNow (.int .i64) (.int .i64 (key : Int)) (l.map (ent f)) i = some none ∧ (∀ p ∈ l, p.1 ≠ key) ∨
    ∃ j, Instr.findNow (.int .i64) (.int .i64 (key : Int)) (l.map (ent f)) i = some (some (j, ptr (f key))) ∧ ∃ p ∈ l, p.1 = key
  | [], i => .inl ⟨rfl, by simp⟩
  | p :: l, i => by
    by_cases h : p.1 = key
    · right
      refine ⟨i, ?_, p, by simp, h⟩
      rw [List.map_cons]
      unfold Instr.findNow
      simp [ent, Instr.sameNow, h]
    · rcases findNow_ent f key l (i + 1) with ⟨h1, h2⟩ | ⟨j, h1, q, hq, hk⟩
      · left
        refine ⟨?_, fun q hq => (List.mem_cons.1 hq).elim (fun e => e ▸ h) (h2 q)⟩
        rw [List.map_cons]
        unfold Instr.findNow
        have hne : ((key : Int) == (p.1 : Int)) = false := by simp; omega
        simp [ent, Instr.sameNow, hne]
        exact h1
      · right
        refine ⟨j, ?_, q, by simp [hq], hk⟩
        rw [List.map_cons]
        unfold Instr.findNow
        have hne : ((key : Int) == (p.1 : Int)) = false := by simp; omega
        simp [ent, Instr.sameNow, hne]
        exact h1
theorem mapEs_ent (A : Book) (s : Nat) (t : Txn) : mapEs A s t = (t.cells.reverse.zipIdx.map fun p => (p.1.1, p.2)).map (ent (A.bx s)) := by
  unfold mapEs
  rw [List.map_map]
  rfl
theorem lookup_mem {l : List (Nat × Cel)} {key : Nat} {x : Cel} (h : l.lookup key = some x) : (key, x) ∈ l := by
  induction l with
  | nil => cases h
  | cons a l ih =>
    obtain ⟨k, y⟩ := a
    rw [List.lookup_cons] at h
    by_cases hk : key = k
    · subst hk
      simp at h
      subst h
      simp
    · rw [beq_false_of_ne hk] at h
      exact List.mem_cons_of_mem _ (ih h)
theorem cell_keys (t : Txn) (key : Nat) : (∃ p ∈ (t.cells.reverse.zipIdx.map fun p => (p.1.1, p.2)), p.1 = key) ↔ (t.cell key).isSome = true := by
  constructor
  · rintro ⟨p, hp, hk⟩
    obtain ⟨q, hq, rfl⟩ := List.mem_map.1 hp
    have h1 := List.mem_reverse.1 (List.fst_mem_of_mem_zipIdx hq)
    cases hc : t.cell key with
    | some x => rfl
    | none => exact absurd hk (lookup_none hc _ h1)
  · intro h
    cases hc : t.cell key with
    | none => rw [hc] at h; cases h
    | some x =>
      have h1 : (key, x) ∈ t.cells := by
        unfold Txn.cell at hc
        exact lookup_mem hc
      obtain ⟨i, hi⟩ := List.getElem?_of_mem (List.mem_reverse.2 h1)
      refine ⟨(key, i), List.mem_map.2 ⟨((key, x), i), ?_, rfl⟩, rfl⟩
      rw [List.mem_zipIdx_iff_getElem?]
      exact hi
def Book.px (A : Book) (s : Nat) (t : Txn) (key : Nat) : Value := if (t.cell key).isSome then ptr (A.bx s key) else .pointer none
theorem lookup_run {A : Book} {σ : St} {w : World} (hR : Rep A σ w) {s : Nat} {t : Txn} (ht : σ.txns.getD s none = some t) (key : Nat) :
    (Instr.lookup 114 (.map (some (A.bm s))) (.int .i64 (key : Int)) false).run Tryz.prog w = .ok (A.px s t key) w := by
  have hb := hR.map ht
  have hz : (zeroValue 202).run Tryz.prog w = .ok (.pointer none) w := by kernel_rfl
  have hck : ∀ e, (Instr.checkKey e 10000 3 (.int .i64 (key : Int))).run Tryz.prog w = .ok () w := by
    intro e
    unfold Instr.checkKey
    simp [run_underlying Tryz.underlying3]
  rw [mapEs_ent] at hb
  rcases findNow_ent (A.bx s) key (t.cells.reverse.zipIdx.map fun p => (p.1.1, p.2)) 0 with ⟨h1, h2⟩ | ⟨j, h1, h2⟩
  · have e : A.px s t key = .pointer none := by
      unfold Book.px
      rw [if_neg]
      intro h
      obtain ⟨p, hp, hk⟩ := (cell_keys t key).2 h
      exact h2 p hp hk
    rw [e]
    clear h2 e
    generalize (t.cells.reverse.zipIdx.map fun p => (p.1.1, p.2)).map (ent (A.bx s)) = es at *
    simp [Instr.lookup, run_underlying Tryz.underlying114, run_underlying Tryz.underlying3, MapKept.run_getObj_map hb, hck, Instr.findKey, h1, hz, Result.andThen]
  · have e : A.px s t key = ptr (A.bx s key) := by
      unfold Book.px
      rw [if_pos ((cell_keys t key).1 h2)]
    rw [e]
    clear h2 e
    generalize (t.cells.reverse.zipIdx.map fun p => (p.1.1, p.2)).map (ent (A.bx s)) = es at *
    simp [Instr.lookup, run_underlying Tryz.underlying114, run_underlying Tryz.underlying3, MapKept.run_getObj_map hb, hck, Instr.findKey, h1, Result.andThen]
end Go.Proofs.YtbefcdjcefmicaaGreat.Em

namespace Go.Proofs.YtbefcdjcefmicaaGreat.Em
open Go.ChangeShapes Go.WideShapes Go.ChangeAt Go.RowKit En
set_option linter.unusedVariables false
set_option linter.unusedSimpArgs false
set_option maxRecDepth 100000
set_option maxHeartbeats 1000000

theorem needs_any {A : Book} {σ : St} {w : World} (hR : Rep A σ w) (s : Nat) (t : Txn) (ht : σ.txns.getD s none = some t) (key link : Nat) (got : Bool) :
    Calls Tryz.prog 140 #[.pointer (some ⟨A.bt s, 0, none⟩), .agg #[.int .i64 (key : Int), .int .u64 (link : Int), .bool got]] w fun e w' => e = .returned (.bool (t.needs (key, link, got))) ∧ Below w.heap.size w w' := by
  obtain ⟨r1, g1, f0⟩ := allocs1 hR #[.int .i64 (key : Int), .int .u64 (link : Int), .bool got] 237
  have hbl : Below w.heap.size w (w.alloc (.cells #[.int .i64 (key : Int), .int .u64 (link : Int), .bool got] 237)) := (Below.refl _ _).alloc (Nat.le_refl _) _
  have c0 := f0.cell 0 (v := .int .i64 (key : Int)) rfl
  have c2 := f0.cell 2 (v := .bool got) rfl
  have t7 := r1.txn ht 7 (v := .map (some (A.bm s))) rfl
  have t1 := r1.txn ht 1 (v := .int .i64 (t.level : Int)) rfl
  have hlk : ∀ n, (Instr.lookup 114 (.map (some (A.bm s))) (.int .i64 (key : Int)) false).run Tryz.prog ((w.alloc (.cells #[.int .i64 (key : Int), .int .u64 (link : Int), .bool got] 237)).drewN n) = .ok (A.px s t key) ((w.alloc (.cells #[.int .i64 (key : Int), .int .u64 (link : Int), .bool got] 237)).drewN n) := fun n => lookup_run (r1.drewN n) ht key
  have HBL := Lib.hid hbl
  clear hR ht r1 g1 f0 hbl
  unfold Txn.needs
  unfold Book.px at hlk
  generalize t.level = lv at *
  by_cases hx : (t.cell key).isSome = true
  · rw [if_pos hx] at hlk
    have hnone : (t.cell key).isNone = false := by cases h : t.cell key <;> simp [h] at hx ⊢
    have HN := Lib.hid hnone
    clear hx hnone
    go_enter Tryz.func140, Tryz.ntmps140
    go_wp2_with fail
    generalize w.alloc (.cells #[.int .i64 (key : Int), .int .u64 (link : Int), .bool got] 237) = w2 at *
    go_quiet (fail)
    go_wp2_with fail
    go_ret
    exact ⟨by simp [HN.out], HBL.out.trans ⟨rfl, rfl, rfl, Nat.le_refl _, fun _ _ => rfl⟩⟩
  · rw [if_neg hx] at hlk
    have hnone : (t.cell key).isNone = true := by cases h : t.cell key <;> simp [h] at hx ⊢
    have HN := Lib.hid hnone
    clear hx hnone
    by_cases h3 : lv = 3
    · have H3 := Lib.hid h3
      have a3 : ((lv : Int) == 3) = true := by simp; omega
      have b3 : ((lv : Int) = 3) = True := by simp; omega
      clear h3
      go_enter Tryz.func140, Tryz.ntmps140
      go_wp2_with fail
      generalize w.alloc (.cells #[.int .i64 (key : Int), .int .u64 (link : Int), .bool got] 237) = w2 at *
      go_quiet (fail)
      go_wp2_with fail
      go_ret
      exact ⟨by simp [HN.out, H3.out], HBL.out.trans ⟨rfl, rfl, rfl, Nat.le_refl _, fun _ _ => rfl⟩⟩
    · by_cases h2 : lv = 2
      · have H3 := Lib.hid h2
        have a3 : ((lv : Int) == 3) = false := by simp; omega
        have b3 : ((lv : Int) = 3) = False := by simp; omega
        have a2 : ((lv : Int) == 2) = true := by simp; omega
        have b2 : ((lv : Int) = 2) = True := by simp; omega
        clear h3 h2
        go_enter Tryz.func140, Tryz.ntmps140
        go_wp2_with fail
        generalize w.alloc (.cells #[.int .i64 (key : Int), .int .u64 (link : Int), .bool got] 237) = w2 at *
        go_quiet (fail)
        go_wp2_with fail
        go_ret
        exact ⟨by simp [HN.out, H3.out], HBL.out.trans ⟨rfl, rfl, rfl, Nat.le_refl _, fun _ _ => rfl⟩⟩
      · have H3 := Lib.hid (And.intro h3 h2)
        have a3 : ((lv : Int) == 3) = false := by simp; omega
        have b3 : ((lv : Int) = 3) = False := by simp; omega
        have a2 : ((lv : Int) == 2) = false := by simp; omega
        have b2 : ((lv : Int) = 2) = False := by simp; omega
        clear h3 h2
        go_enter Tryz.func140, Tryz.ntmps140
        go_wp2_with fail
        generalize w.alloc (.cells #[.int .i64 (key : Int), .int .u64 (link : Int), .bool got] 237) = w2 at *
        go_quiet (fail)
        go_wp2_with fail
        go_ret
        exact ⟨by simp [HN.out, H3.out.1, H3.out.2], HBL.out.trans ⟨rfl, rfl, rfl, Nat.le_refl _, fun _ _ => rfl⟩⟩
theorem mine_any {A : Book} {σ : St} {w : World} (hR : Rep A σ w) (s : Nat) (t : Txn) (ht : σ.txns.getD s none = some t) (h1 : 1 ≤ t.id) (h2 : t.id ≤ 65535) :
    Calls Tryz.prog 120 #[.pointer (some ⟨A.bt s, 0, none⟩)] w fun e w' => e = .returned (.int .u64 ((mine t : Nat) : Int)) ∧ w = w' := by
  have c0 : w.cell? ⟨A.bt s, 0, none⟩ = some (.int .i64 (t.id : Int)) := hR.txn ht 0 rfl
  have e : ((mine t : Nat) : Int) = 4611686018427387904 + (t.id : Int) := by unfold mine txnBit; omega
  have hw := Word.txn_yes (t.id : Int) (by omega) (by omega) w
  rw [e]
  have HW := Lib.hid hw
  clear hR ht h1 h2 e hw
  go_enter Tryz.func120, Tryz.ntmps120
  go_wp2_with (go_at_call 145; refine HW.out.mono ?_; rintro e w' ⟨rfl, rfl⟩)
  go_ret
  exact ⟨rfl, rfl⟩
end Go.Proofs.YtbefcdjcefmicaaGreat.Em

namespace Go.Proofs.YtbefcdjcefmicaaGreat.Em
open Go.ChangeShapes Go.WideShapes Go.ChangeAt Go.RowKit En
set_option linter.unusedVariables false
set_option linter.unusedSimpArgs false
set_option maxRecDepth 100000
set_option maxHeartbeats 1000000

theorem wait_any {A : Book} {σ : St} {w : World} (hR : Rep A σ w) (s : Nat) (t : Txn) (ht : σ.txns.getD s none = some t) (i : Nat) :
    Calls Tryz.prog 141 #[.pointer (some ⟨A.be, 0, none⟩), .pointer (some ⟨A.bt s, 0, none⟩), .pointer (some ⟨A.bc s, 0, none⟩), .int .i64 (i : Int)] w (Tells A w s (σ, waitK t i)) := by
  obtain ⟨r4, g4, f0, f1, f2, f3⟩ := allocs4 hR #[.pointer (some ⟨A.be, 0, none⟩)] 27 #[.pointer (some ⟨A.bt s, 0, none⟩)] 102 #[.pointer (some ⟨A.bc s, 0, none⟩)] 107 #[.int .i64 (i : Int)] 3
  have c0 := f0.cell 0 (v := .pointer (some ⟨A.be, 0, none⟩)) rfl
  have c1 := f1.cell 0 (v := .pointer (some ⟨A.bt s, 0, none⟩)) rfl
  have c2 := f2.cell 0 (v := .pointer (some ⟨A.bc s, 0, none⟩)) rfl
  have c3 := f3.cell 0 (v := .int .i64 (i : Int)) rfl
  have t9 := r4.txn ht 9 (v := A.vbonds s) rfl
  have hown := (r4.mem.all (.bonds s))
  rw [mem_bonds ht] at hown
  obtain ⟨av, capv, hv, _⟩ := Ow.own_form hown.1
  rw [hv] at t9
  have HR := Lib.hid (And.intro r4 (And.intro g4 (And.intro f0 (And.intro f1 (And.intro f2 f3)))))
  clear hR ht r4 g4 f0 f1 f2 f3 hown hv
  unfold waitK
  generalize t.bonds.length = n at *
  by_cases hi : i = n
  · rw [if_pos hi]
    have d1 : ((i : Int) == (n : Int)) = true := by simp; omega
    have d2 : (i == n) = true := by simp; omega
    have d3 : ((i : Int) = (n : Int)) = True := by simp; omega
    clear hi
    go_enter Tryz.func141, Tryz.ntmps141
    go_wp2_with fail
    generalize (((w.alloc _).alloc _).alloc _).alloc _ = w4 at *
    go_quiet (fail)
    go_wp2_with (go_at_call 162; refine (commit_any (HR.out.1.drewN _) s).mono ?_; rintro e w2 ⟨A2, v, rfl, p1, p2, p3, p4⟩)
    go_ret
    exact ⟨A2, v, rfl, p1, (HR.out.2.1.trans (Grow.drewN _ _ _)).trans p2, p3, p4⟩
  · rw [if_neg hi]
    have d1 : ((i : Int) == (n : Int)) = false := by simp; omega
    have d2 : (i == n) = false := by simp; omega
    have d3 : ((i : Int) = (n : Int)) = False := by simp; omega
    clear hi
    go_enter Tryz.func141, Tryz.ntmps141
    go_wp2_with fail
    generalize hw4 : (((w.alloc _).alloc _).alloc _).alloc _ = w4 at *
    have hz : w4.heap.size = w.heap.size + 1 + 1 + 1 + 1 := by rw [← hw4]; simp
    have HZ := Lib.hid hz
    clear hz hw4
    go_quiet (fail)
    generalize hw : w4.drewN _ = w5
    obtain ⟨r, g, f0, f1, f2, f3⟩ := HR.out
    have g5 : Grow A.L w4 A.L w5 := by rw [← hw]; exact Grow.drewN _ _ _
    have r5 : Rep A σ w5 := by rw [← hw]; exact r.drewN _
    obtain ⟨r6, g6, f4⟩ := allocs1 r5 #[.func (.func 163) #[] #[.pointer (some ⟨w.heap.size, 0, none⟩), .pointer (some ⟨w.heap.size + 1, 0, none⟩), .pointer (some ⟨w.heap.size + 1 + 1 + 1, 0, none⟩), .pointer (some ⟨w.heap.size + 1 + 1, 0, none⟩), .pointer (some ⟨w5.heap.size, 0, none⟩)]] 131
    have gg := g5.trans g6
    have HQ := Lib.hid (And.intro r6 (And.intro (g.trans gg) (And.intro (f0.grow gg) (And.intro (f1.grow gg) (And.intro (f3.grow gg) (And.intro (f2.grow gg) f4))))))
    clear r g f0 f1 f2 f3 g5 r5 r6 g6 f4 gg hw
    go_wp2_with fail
    go_ret
    obtain ⟨q1, q2, q3, q4, q5, q6, q7⟩ := HQ.out
    exact ⟨A, _, rfl, q1, q2, Stay.refl _ _, _, _, _, _, _, rfl, q3.box, q4.box, q5.box, q6.box, q7.box⟩
end Go.Proofs.YtbefcdjcefmicaaGreat.Em

namespace Go.Proofs.YtbefcdjcefmicaaGreat.Em
open Go.ChangeShapes Go.WideShapes Go.ChangeAt Go.RowKit En
set_option linter.unusedVariables false
set_option linter.unusedSimpArgs false
set_option maxRecDepth 100000
set_option maxHeartbeats 1600000

theorem disable (w : World) : (callFunc 213 #[]).run Tryz.prog w = .ok (.value (.tuple #[])) w := run_call_mark0 Tryz.func213 (by kernel_rfl) (by kernel_rfl) (by kernel_rfl) .disable (by kernel_rfl) w
theorem enable (w : World) : (callFunc 215 #[]).run Tryz.prog w = .ok (.value (.tuple #[])) w := run_call_mark0 Tryz.func215 (by kernel_rfl) (by kernel_rfl) (by kernel_rfl) .enable (by kernel_rfl) w
theorem acquire (a : Addr) (w : World) : (callFunc 216 #[.pointer (some a)]).run Tryz.prog w = .ok (.value (.tuple #[])) w := run_call_marked Tryz.func216 (by kernel_rfl) (by kernel_rfl) (by kernel_rfl) .acquire (by kernel_rfl) a w
theorem releaseMerge (a : Addr) (w : World) : (callFunc 218 #[.pointer (some a)]).run Tryz.prog w = .ok (.value (.tuple #[])) w := run_call_marked Tryz.func218 (by kernel_rfl) (by kernel_rfl) (by kernel_rfl) .releaseMerge (by kernel_rfl) a w
theorem store_deferred (a : Addr) (x : Value) (u : FrameMode) (w : World) (hc : w.cell? a = some x) (hz : w.frozen? a = false) :
    CallsD Tryz.prog 187 #[.pointer (some a), .bool true] u w fun e u' w' => u' = u ∧ (e = .returned (.tuple #[]) ∧ w' = w.drew.setCell a (.int .u32 1)) := by
  have hc' : w.drew.cell? a = some x := by go_simp
  have hz' : w.drew.frozen? a = false := by go_simp
  have hst := run_call_store (P := Tryz.prog) Tryz.func202 (by kernel_rfl) (by kernel_rfl) (by kernel_rfl) (by kernel_rfl) (k := .u32) (y := 1) hc' hz'
  go_enter_d Tryz.func187, Tryz.ntmps187
  go_wp2
  go_region_calls
  all_goals (go_end0; exact ⟨rfl, rfl⟩)
theorem unlock_deferred (a : Addr) (u : FrameMode) (w : World) (hc : w.cell? a = some (.int .i32 1)) (hz : w.frozen? a = false) :
    CallsD Tryz.prog 186 #[.pointer (some a)] u w fun e u' w' => u' = u ∧ (e = .returned (.tuple #[]) ∧ w' = w.setCell a (.int .i32 0)) := by
  have hd := disable
  have he := enable
  have hr := releaseMerge
  have hadd := run_call_add (P := Tryz.prog) Tryz.func219 (by kernel_rfl) (by kernel_rfl) (by kernel_rfl) .i32 (by kernel_rfl) (y := -1) (s := 0) hc hz (by simp [go_sem]; rfl)
  have hcv := run_convert_to_unsafe (P := Tryz.prog) (src := 273) (dst := 277) Tryz.underlying273 Tryz.underlying277 (by kernel_rfl) hc
  go_enter_d Tryz.func186, Tryz.ntmps186
  go_wp2
  go_end0
  go_wp2
  go_end0
  exact ⟨rfl, rfl⟩
theorem lock_free (a : Addr) (w : World) (hc : w.cell? a = some (.int .i32 0)) (hz : w.frozen? a = false) :
    Calls Tryz.prog 185 #[.pointer (some a)] w fun e w' => e = .returned (.tuple #[]) ∧ w' = w.setCell a (.int .i32 1) := by
  have hd := disable
  have he := enable
  have ha := acquire
  have hcas := run_call_cas_hit (P := Tryz.prog) Tryz.func214 (by kernel_rfl) (by kernel_rfl) (by kernel_rfl) .i32 (by kernel_rfl) (y := 1) hc hz
  have hc' : (w.setCell a (.int .i32 1)).cell? a = some (.int .i32 1) := World.cell?_setCell_same w a _ hc
  have hcv := run_convert_to_unsafe (P := Tryz.prog) (src := 273) (dst := 277) Tryz.underlying273 Tryz.underlying277 (by kernel_rfl) hc'
  go_enter Tryz.func185, Tryz.ntmps185
  go_wp2
  first | go_end0 | (simp only [Exit.inBlock, Exit.then]; refine bodyPost_ret (results_none rfl _ _ _) rfl ?_) | refine bodyPost_ret (results_none rfl _ _ _) rfl ?_
  go_wp2
  go_end0
  exact ⟨rfl, rfl⟩
end Go.Proofs.YtbefcdjcefmicaaGreat.Em

namespace Go.Proofs.YtbefcdjcefmicaaGreat.Em
open Go.ChangeShapes Go.WideShapes Go.ChangeAt Go.RowKit En
set_option linter.unusedVariables false
set_option linter.unusedSimpArgs false
set_option maxRecDepth 100000
set_option maxHeartbeats 1600000

/-- What a Once that is being done looks like behind the function. -/
structure Held (b off : Nat) (w : World) : Prop where
  d : w.cell? ⟨b, off, none⟩ = some (.int .u32 0)
  m : w.cell? ⟨b, off + 1, none⟩ = some (.int .i32 1)
  zd : w.frozen? ⟨b, off, none⟩ = false
  zm : w.frozen? ⟨b, off + 1, none⟩ = false
def onceEnd (b off : Nat) (w : World) : World := (w.drew.setCell ⟨b, off, none⟩ (.int .u32 1)).setCell ⟨b, off + 1, none⟩ (.int .i32 0)
theorem slow_any (b off fc : Nat) (caps : Array Value) (w : World) (Q : World → Prop) (h0 : w.cell? ⟨b, off, none⟩ = some (.int .u32 0)) (h1 : w.cell? ⟨b, off + 1, none⟩ = some (.int .i32 0))
    (f0 : w.frozen? ⟨b, off, none⟩ = false) (f1 : w.frozen? ⟨b, off + 1, none⟩ = false)
    (he : ∀ w, (callFunc fc caps).run Tryz.prog w = .ok (.enter fc caps) w)
    (hf : Calls Tryz.prog fc caps (w.setCell ⟨b, off + 1, none⟩ (.int .i32 1)) fun e w' => e = .returned (.tuple #[]) ∧ Q w') (hq : ∀ w', Q w' → Held b off w') :
    Calls Tryz.prog 165 #[.pointer (some ⟨b, off, none⟩), .func (.func fc) #[] caps] w fun e w' => e = .returned (.tuple #[]) ∧ ∃ w2, Q w2 ∧ w' = onceEnd b off w2 := by
  have hl := run_call_load (P := Tryz.prog) Tryz.func184 (by kernel_rfl) (by kernel_rfl) (by kernel_rfl) .u32 (by kernel_rfl) (w := w.setCell ⟨b, off + 1, none⟩ (.int .i32 1)) (a := ⟨b, off, none⟩) (x := 0) ((World.cell?_setCell_other _ ⟨b, off + 1, none⟩ ⟨b, off, none⟩ _ (by simp)).trans h0)
  have hnot : ∀ (x : Bool) (w : World), (Op.unary .not (.bool x)).run Tryz.prog w = .ok (.bool (!x)) w := fun _ _ => rfl
  have HF := Lib.hid hf
  have HQ := Lib.hid hq
  clear hf hq
  go_enter_defers Tryz.func165, Tryz.ntmps165
  go_wp2_with (first | (go_at_call 185; refine (lock_free ⟨b, off + 1, none⟩ _ (by go_simp) (by go_simp)).mono ?_; rintro e w' ⟨rfl, rfl⟩) | (go_at_call 164; go_in))
  refine HF.out.mono ?_
  rintro e w2 ⟨rfl, hw2⟩
  go_wp2
  refine leaves_cons (f := 187) (args := #[.pointer (some ⟨b, off, none⟩), .bool true]) (by simp) (by simp [go_sem]) ?_
  have HH := HQ.out w2 hw2
  refine (store_deferred ⟨b, off, none⟩ (.int .u32 0) .returning _ HH.d HH.zd).mono ?_
  rintro e u' w'' ⟨rfl, rfl, rfl⟩
  refine leaves_cons (f := 186) (args := #[.pointer (some ⟨b, off + 1, none⟩)]) (by simp [settle]) (by simp [go_sem]) ?_
  refine (unlock_deferred ⟨b, off + 1, none⟩ _ _ ?_ ?_).mono ?_
  · refine (World.cell?_setCell_other _ ⟨b, off, none⟩ ⟨b, off + 1, none⟩ _ (by simp)).trans ?_
    rw [World.cell?_drew]
    exact HH.m
  · simp [HH.zm]
  rintro e u' w'' ⟨rfl, rfl, rfl⟩
  simp [Leaves, settle, results, Tryz.results165]
  exact ⟨w2, hw2, rfl⟩
theorem do_first (b off fc : Nat) (caps : Array Value) (w : World) (Q : World → Prop) (h0 : w.cell? ⟨b, off, none⟩ = some (.int .u32 0)) (h1 : w.cell? ⟨b, off + 1, none⟩ = some (.int .i32 0))
    (f0 : w.frozen? ⟨b, off, none⟩ = false) (f1 : w.frozen? ⟨b, off + 1, none⟩ = false)
    (he : ∀ w, (callFunc fc caps).run Tryz.prog w = .ok (.enter fc caps) w)
    (hf : Calls Tryz.prog fc caps (w.setCell ⟨b, off + 1, none⟩ (.int .i32 1)) fun e w' => e = .returned (.tuple #[]) ∧ Q w') (hq : ∀ w', Q w' → Held b off w') :
    Calls Tryz.prog 143 #[.pointer (some ⟨b, off, none⟩), .func (.func fc) #[] caps] w fun e w' => e = .returned (.tuple #[]) ∧ ∃ w2, Q w2 ∧ w' = onceEnd b off w2 := by
  have HS := Lib.hid (slow_any b off fc caps w Q h0 h1 f0 f1 he hf hq)
  have hl := run_call_load (P := Tryz.prog) Tryz.func184 (by kernel_rfl) (by kernel_rfl) (by kernel_rfl) .u32 (by kernel_rfl) h0
  have hnot : ∀ (x : Bool) (w : World), (Op.unary .not (.bool x)).run Tryz.prog w = .ok (.bool (!x)) w := fun _ _ => rfl
  clear he hf hq
  go_enter Tryz.func143, Tryz.ntmps143
  go_wp2_with (first | (go_at_call 165; refine HS.out.mono ?_; rintro e w' ⟨rfl, hw⟩) | (go_at_call 164; go_in))
  go_end0
  exact ⟨rfl, hw⟩
theorem enter_list (caps : Array Value) (w : World) : (callFunc 155 caps).run Tryz.prog w = .ok (.enter 155 caps) w := by kernel_rfl
theorem enter_tell (caps : Array Value) (w : World) : (callFunc 144 caps).run Tryz.prog w = .ok (.enter 144 caps) w := by kernel_rfl
theorem do_done (a : Addr) (fv : Value) (w : World) (h0 : w.cell? a = some (.int .u32 1)) :
    Calls Tryz.prog 143 #[.pointer (some a), fv] w fun e w' => e = .returned (.tuple #[]) ∧ w' = w := by
  have hl := run_call_load (P := Tryz.prog) Tryz.func184 (by kernel_rfl) (by kernel_rfl) (by kernel_rfl) .u32 (by kernel_rfl) h0
  have hnot : ∀ (x : Bool) (w : World), (Op.unary .not (.bool x)).run Tryz.prog w = .ok (.bool (!x)) w := fun _ _ => rfl
  go_enter Tryz.func143, Tryz.ntmps143
  go_wp2
  go_end0
  exact ⟨rfl, rfl⟩
end Go.Proofs.YtbefcdjcefmicaaGreat.Em

namespace Go.Proofs.YtbefcdjcefmicaaGreat.Em
open Go.ChangeShapes Go.WideShapes Go.ChangeAt Go.RowKit En
set_option linter.unusedVariables false
set_option linter.unusedSimpArgs false
set_option maxRecDepth 100000
set_option maxHeartbeats 1600000

theorem infoI : (Tryz.prog.info? 3).map (fun i => (i.zero, i.size, i.bytes)) = some (some (.int .i64 0), 1, 8) := by kernel_rfl
/-- Only the pool's list has turned. -/
def FreeOnly (A A' : Book) : Prop := ∃ L v, A' = { A with L := L, vfree := v }
def freeTo (σ : St) (k : Nat) : St := { σ with free := σ.free ++ (List.range σ.slots).reverse.take k }
theorem freeTo_succ (σ : St) (k : Nat) (hk : k < σ.slots) : (freeTo σ (k + 1)).free = (freeTo σ k).free ++ [σ.slots - 1 - k] := by
  unfold freeTo
  simp only
  rw [List.take_succ_eq_append_getElem (by simpa using hk), List.append_assoc]
  simp
theorem free_row {A : Book} {σ : St} {w : World} (h : Rep A σ w) : w.ownsRow 0 3 1 A.vfree σ.free.length (σ.free.map i64) := (h.mem.all .free).1
/-- A number is put behind the list of free slots. -/
theorem free_step {A : Book} {σ : St} {w : World} (hR : Rep A σ w) (i : Nat) :
    ∃ av capv, A.vfree = .slice av σ.free.length capv ∧ ∀ v' w2, w2.ownsRow 0 3 1 v' (σ.free.length + 1) (σ.free.map i64 ++ [.int .i64 (i : Int)]) → (w.alloc (.cells #[.int .i64 (i : Int)] 3)).grownBy w2 A.vfree.ownBlock → (v'.ownBlock = A.vfree.ownBlock ∨ ∀ g, v'.ownBlock = some g → (w.alloc (.cells #[.int .i64 (i : Int)] 3)).heap.size ≤ g) →
      (∃ A', FreeOnly A A' ∧ Rep A' { σ with free := σ.free ++ [i] } (w2.setCell ⟨A.bp, 2, none⟩ v') ∧ Grow A.L w A'.L (w2.setCell ⟨A.bp, 2, none⟩ v')) ∧ w2.cell? ⟨A.bp, 2, none⟩ = some A.vfree ∧ w2.frozen? ⟨A.bp, 2, none⟩ = false ∧ (∀ b u, A.L b = none → w.cell? ⟨b, 0, none⟩ = some u → w2.cell? ⟨b, 0, none⟩ = some u) := by
  obtain ⟨av, capv, hv, _⟩ := Ow.own_form (free_row hR)
  refine ⟨av, capv, hv, fun v' w2 q1 q2 q3 => ?_⟩
  obtain ⟨r1, g1, _⟩ := allocs1 hR #[.int .i64 (i : Int)] 3
  obtain ⟨p1, p2, p3, p4⟩ := r1.freeOn (σ.free ++ [i]) v' q2 (by simpa using q1) q3
  refine ⟨⟨_, ⟨_, _, rfl⟩, p1, g1.trans p2⟩, p3, p4, fun b u hl hc => ?_⟩
  have hc1 : (w.alloc (.cells #[.int .i64 (i : Int)] 3)).cell? ⟨b, 0, none⟩ = some u := by
    rw [World.cell?_alloc_past _ _ _ (World.block_lt_of_cell? w _ hc)]; exact hc
  refine q2.cell hc1 fun e => ?_
  have := (hR.mem.all .free).2 b e.symm
  rw [hl] at this
  cases this
theorem list_body {A : Book} {σ : St} {w : World} (hR : Rep A σ w) (b0 : Nat) (B0 : Box A.L w b0 (.pointer (some ⟨A.bp, 0, none⟩))) (hn : σ.free.length < 100000) :
    Calls Tryz.prog 155 #[.pointer (some ⟨b0, 0, none⟩)] w fun e w' => e = .returned (.tuple #[]) ∧ ∃ A', FreeOnly A A' ∧ Rep A' (freeTo σ σ.slots) w' ∧ Grow A.L w A'.L w' := by
  have c0 := B0.cell
  have p0 : w.cell? ⟨A.bp, 0, none⟩ = some (.slice (some ⟨A.bs, 0, none⟩) σ.slots σ.slots) := hR.pool 0 rfl
  have hsl := hR.sl
  have HR := Lib.hid hR
  have HB := Lib.hid B0
  have HN := Lib.hid (And.intro hn hsl)
  have hw1 : IntKind.i64.wrap ((σ.slots : Int) - 1) = (σ.slots : Int) - 1 := by rw [IntKind.wrap_i64]; omega
  clear hR B0 hn hsl
  go_enter Tryz.func155, Tryz.ntmps155
  go_wp2_with fail
  go_loopw [1] (fun i wr => ∃ k : Nat, k ≤ σ.slots ∧ i = .int .i64 ((σ.slots : Int) - 1 - (k : Int)) ∧ ∃ A', FreeOnly A A' ∧ Rep A' (freeTo σ k) wr ∧ Grow A.L w A'.L wr) (fun i _ => (intOf i + 1).toNat)
  case atStart => exact ⟨0, Nat.zero_le _, by simp, A, ⟨_, _, rfl⟩, by simpa [freeTo] using HR.out, Grow.refl _ _⟩
  case round =>
    obtain ⟨k, hk, rfl, A', ⟨L', v1, rfl⟩, hr, hg⟩ := hrel
    by_cases hlt : k < σ.slots
    · obtain ⟨j, hj⟩ : ∃ j : Nat, j = σ.slots - 1 - k := ⟨_, rfl⟩
      have ej : (σ.slots : Int) - 1 - (k : Int) = (j : Int) := by omega
      rw [ej]
      have d1 : (0 : Int) ≤ (j : Int) := by omega
      have d2 : IntKind.i64.wrap ((j : Int) - 1) = (j : Int) - 1 := by rw [IntKind.wrap_i64]; have := HN.out.2; omega
      have B1 := HB.out.grow hg
      obtain ⟨av, capv, hv, hstep⟩ := free_step hr j
      obtain ⟨r1, g1, _⟩ := allocs1 hr #[.int .i64 (j : Int)] 3
      have c0 := B1.cell
      have c1 := (B1.grow g1).cell
      have hb0 : L' b0 = none := by obtain ⟨_, hx⟩ := B1; exact hx.1
      have HB0 := Lib.hid (And.intro hb0 c0)
      clear hb0
      have p2 : wr.cell? ⟨A.bp, 2, none⟩ = some v1 := hr.pool 2 rfl
      have p3 : (wr.alloc (.cells #[.int .i64 (j : Int)] 3)).cell? ⟨A.bp, 2, none⟩ = some v1 := r1.pool 2 rfl
      have hown : (wr.alloc (.cells #[.int .i64 (j : Int)] 3)).ownsRow 0 3 1 v1 (freeTo σ k).free.length ((freeTo σ k).free.map i64) := free_row r1
      have hv' : v1 = .slice av (freeTo σ k).free.length capv := hv
      have hfl : (freeTo σ k).free.length = σ.free.length + k := by unfold freeTo; simp; omega
      rw [hv'] at p2 p3 hown
      have HST := Lib.hid hstep
      have HV := Lib.hid hv'
      have HO := Lib.hid hown
      have HL := Lib.hid (And.intro hlt (And.intro hj (And.intro ej (And.intro hfl hg))))
      have hlen : (freeTo σ k).free.length < 200000 := by have := HN.out.1; have := HN.out.2; omega
      clear hr hg B1 r1 g1 hstep hv hv' hown hfl hlt hj ej hk
      generalize (freeTo σ k).free.length = len at *
      obtain ⟨i0, hi, hz0, hz1, hz2⟩ := info_parts infoI
      go_wp2_with fail
      go_region_law (first | (refine Ow.wp_append_to _ (.tmp 16) (.tmp 18) 33 rfl 0 _ i0 _ 1 8 Tryz.underlying33 hi hz0 hz1 hz2 rfl (by decide) (.slice av len capv) len ((freeTo σ k).free.map i64) rfl HO.out ⟨wr.heap.size, 0, none⟩ 1 1 (by omega) [.int .i64 (j : Int)] rfl rfl (by intro j' u hu; exact Ow.new_row wr [.int .i64 (j : Int)] _ _ rfl j' u hu) (by intro u hu; obtain rfl := List.mem_singleton.1 hu; rfl) (by unfold maxLen; omega) (by omega) (Nat.zero_le _) ?_; intro v' w2 q1 q2 q3; obtain ⟨r1, r2, r3, r4⟩ := HST.out v' w2 q1 (by show (wr.alloc _).grownBy w2 v1.ownBlock; rw [HV.out]; exact grown_drew q2) (by show v'.ownBlock = v1.ownBlock ∨ _; rw [HV.out]; exact q3); obtain ⟨a4, cap4, rfl, _⟩ := Ow.own_form q1; have R1 := Lib.hid r1; have c02 := r4 b0 _ HB0.out.1 HB0.out.2; clear r1 r4 q1 q2 q3))
      all_goals
        go_wp2_with fail
        go_roundw
        case rel =>
          obtain ⟨h1, h2, h3, h4, h5⟩ := HL.out
          obtain ⟨A2, ⟨L2, v2, rfl⟩, q1, q2⟩ := R1.out
          refine ⟨k + 1, by omega, by rw [show (σ.slots : Int) - 1 - ((k + 1 : Nat) : Int) = (j : Int) - 1 by omega], _, ⟨L2, v2, rfl⟩, ?_, h5.trans q2⟩
          have e : freeTo σ (k + 1) = { freeTo σ k with free := (freeTo σ k).free ++ [j] } := by
            have := freeTo_succ σ k h1
            unfold freeTo at this ⊢
            simp only at this ⊢
            rw [this, h2]
          rw [e]
          exact q1
        case measure => simp [intOf] <;> omega
    · obtain rfl : k = σ.slots := by omega
      have em : (σ.slots : Int) - 1 - (σ.slots : Int) = -1 := by omega
      rw [em]
      have HL := Lib.hid (And.intro hr hg)
      clear hr hg hlt hk em
      go_wp2_with fail
      go_end0
      exact ⟨rfl, _, ⟨L', v1, rfl⟩, HL.out.1, HL.out.2⟩
end Go.Proofs.YtbefcdjcefmicaaGreat.Em

namespace Go.Proofs.YtbefcdjcefmicaaGreat.Em
open Go.ChangeShapes Go.WideShapes Go.ChangeAt Go.RowKit En
set_option linter.unusedVariables false
set_option linter.unusedSimpArgs false
set_option maxRecDepth 100000
set_option maxHeartbeats 1600000

/-- The pool has been turned: nothing else. -/
structure PoolOnly (A A' : Book) : Prop where
  ex : ∃ L v m, A' = { A with L := L, vfree := v, mp := m }
  mp : A'.mp = A.mp
theorem PoolOnly.refl (A : Book) : PoolOnly A A := ⟨⟨_, _, _, rfl⟩, rfl⟩
theorem PoolOnly.trans {A B C : Book} (h : PoolOnly A B) (k : PoolOnly B C) : PoolOnly A C := by
  obtain ⟨⟨L, v, m, rfl⟩, h2⟩ := h
  obtain ⟨⟨L', v', m', rfl⟩, k2⟩ := k
  exact ⟨⟨_, _, _, rfl⟩, k2.trans h2⟩
def Pooled (A : Book) (w : World) (σ' : St) (v : Value) : Ending → World → Prop := fun e w' => e = .returned v ∧ ∃ A', PoolOnly A A' ∧ Rep A' σ' w' ∧ Grow A.L w A'.L w'
theorem list_any {A : Book} {σ : St} {w : World} (hR : Rep A σ w) (hm : A.mp = 0) (hn : σ.free.length < 100000) :
    Calls Tryz.prog 129 #[.pointer (some ⟨A.bp, 0, none⟩)] w (Pooled A w σ.list (.tuple #[])) := by
  obtain ⟨r1, g1, f0⟩ := allocs1 hR #[.pointer (some ⟨A.bp, 0, none⟩)] 104
  have c0 := f0.cell 0 (v := .pointer (some ⟨A.bp, 0, none⟩)) rfl
  by_cases hl : σ.listed = true
  · have p4 : (w.alloc (.cells #[.pointer (some ⟨A.bp, 0, none⟩)] 104)).cell? ⟨A.bp, 4, none⟩ = some (.int .u32 1) := r1.pool 4 (by simp [poolCs, onceCs, hl])
    have hd := do_done ⟨A.bp, 4, none⟩ (.func (.func 155) #[] #[.pointer (some ⟨w.heap.size, 0, none⟩)]) _ p4
    have e : σ.list = σ := by unfold St.list; rw [if_pos hl]
    rw [e]
    have HR := Lib.hid (And.intro r1 g1)
    have HD := Lib.hid hd
    clear hR r1 g1 f0 hd e hl hn p4 hm
    go_enter Tryz.func129, Tryz.ntmps129
    go_wp2_with (go_at_call 143; refine HD.out.mono ?_; rintro e w' ⟨rfl, rfl⟩)
    go_end0
    exact ⟨rfl, A, PoolOnly.refl A, HR.out.1, HR.out.2⟩
  · have hl' : σ.listed = false := by simpa using hl
    have p4 : (w.alloc (.cells #[.pointer (some ⟨A.bp, 0, none⟩)] 104)).cell? ⟨A.bp, 4, none⟩ = some (.int .u32 0) := r1.pool 4 (by simp [poolCs, onceCs, hl'])
    have p5 : (w.alloc (.cells #[.pointer (some ⟨A.bp, 0, none⟩)] 104)).cell? ⟨A.bp, 5, none⟩ = some (.int .i32 0) := r1.pool 5 (by simp [poolCs, onceCs, hm])
    obtain ⟨r2, g2⟩ := r1.poolLock 1
    have hb := list_body r2 w.heap.size (f0.box.grow g2) hn
    have hd := do_first A.bp 4 155 #[.pointer (some ⟨w.heap.size, 0, none⟩)] (w.alloc (.cells #[.pointer (some ⟨A.bp, 0, none⟩)] 104))
      (fun w' => ∃ A', FreeOnly { A with mp := 1 } A' ∧ Rep A' (freeTo σ σ.slots) w' ∧ Grow A.L w A'.L w') p4 p5 (r1.poolF 4) (r1.poolF 5) (enter_list _)
      (hb.mono fun e w' ⟨h1, A', h2, h3, h4⟩ => ⟨h1, A', h2, h3, (g1.trans g2).trans h4⟩)
      (by
        rintro w' ⟨A', ⟨L, v, rfl⟩, h3, h4⟩
        exact ⟨h3.pool 4 (by simp [poolCs, onceCs, freeTo, hl']), h3.pool 5 (by simp [poolCs, onceCs]), h3.poolF 4, h3.poolF 5⟩)
    have e : σ.list = { freeTo σ σ.slots with listed := true } := by
      have ht : (List.range σ.slots).reverse.take σ.slots = (List.range σ.slots).reverse := List.take_of_length_le (by simp)
      unfold St.list freeTo
      rw [if_neg hl, ht]
    rw [e]
    have HD := Lib.hid hd
    have HM := Lib.hid hm
    clear hR r1 g1 f0 hd e hl hn p4 p5 r2 g2 hb hl' hm
    go_enter Tryz.func129, Tryz.ntmps129
    go_wp2_with (go_at_call 143; refine HD.out.mono ?_; rintro e w' ⟨rfl, w2, ⟨A', ⟨L, v, rfl⟩, h3, h4⟩, rfl⟩)
    go_end0
    obtain ⟨k1, q1⟩ := h3.drew.poolDone
    obtain ⟨k2, q2⟩ := k1.poolLock 0
    exact ⟨rfl, _, ⟨⟨L, v, 0, rfl⟩, HM.out.symm⟩, k2, ((h4.trans (Grow.drew _ _)).trans q1).trans q2⟩
theorem link_any {A : Book} {σ : St} {w : World} (hR : Rep A σ w) (i : Nat) (hi : i < σ.slots) (ht : (σ.tags.getD i (0, false)).1 ≤ 65535) :
    Calls Tryz.prog 177 #[.pointer (some ⟨A.bp, 0, none⟩), .int .i64 (i : Int)] w fun e w' => e = .returned (.int .u64 ((σ.linkAt i : Nat) : Int)) ∧ w = w' := by
  have p0 : w.cell? ⟨A.bp, 0, none⟩ = some (.slice (some ⟨A.bs, 0, none⟩) σ.slots σ.slots) := hR.pool 0 rfl
  have t0 := (hR.tag hi).1
  have t0' := t0
  rw [Nat.mul_comm] at t0'
  have hsl := hR.sl
  have e : ((σ.linkAt i : Nat) : Int) = ((σ.tags.getD i (0, false)).1 : Int) * 131072 + ((i : Int) + 1) := by unfold St.linkAt linkOf; omega
  have hk := Word.link_yes (i : Int) ((σ.tags.getD i (0, false)).1 : Int) (by omega) (by omega) (by omega) (by omega) w
  rw [e]
  have b1 : (i : Int) < (σ.slots : Int) := by omega
  have b0 : (0 : Int) ≤ (i : Int) := by omega
  have HK := Lib.hid hk
  clear hR hi ht hsl e hk
  generalize (σ.tags.getD i (0, false)).1 = tg at *
  generalize σ.slots = n at *
  go_enter Tryz.func177, Tryz.ntmps177
  go_wp2_with (go_at_call 193; refine HK.out.mono ?_; rintro e w' ⟨rfl, rfl⟩)
  go_ret
  exact ⟨rfl, rfl⟩
end Go.Proofs.YtbefcdjcefmicaaGreat.Em

namespace Go.Proofs.YtbefcdjcefmicaaGreat.Em
open Go.ChangeShapes Go.WideShapes Go.ChangeAt Go.RowKit En
set_option linter.unusedVariables false
set_option linter.unusedSimpArgs false
set_option maxRecDepth 100000
set_option maxHeartbeats 1600000

theorem own_drop {w : World} {e : TypeId} {n : Nat} {v : Value} {xs : List Value} (h : w.ownsRow 0 e 1 v n xs) (hn : 0 < n) : ∃ g cap, v = .slice (some ⟨g, 0, none⟩) n cap ∧ n ≤ cap ∧ cap ≤ 9223372036854775807 ∧ w.ownsRow 0 e 1 (.slice (some ⟨g, 0, none⟩) (n - 1) cap) (n - 1) xs.dropLast ∧ (∀ j u, xs[j]? = some u → w.cell? ⟨g, j, none⟩ = some u) := by
  have hc := fun g hg => h.cells (g := g) hg
  rcases h.2 with ⟨rfl, h0⟩ | ⟨g, cap, cur, rfl, hb, hg, hnc, hcm, hcs, htake⟩
  · omega
  · have hcm' := hcm
    unfold maxLen at hcm'
    refine ⟨g, cap, rfl, hnc, hcm', ⟨by rw [List.length_dropLast, h.1]; omega, .inr ⟨g, cap, cur, rfl, hb, hg, by omega, hcm, hcs, ?_⟩⟩, fun j u hj => ?_⟩
    · rw [← htake, List.dropLast_eq_take, List.take_take]
      congr 1
      have : (cur.toList.take (n * 1)).length = n := by rw [htake, h.1]; omega
      omega
    · have := hc g rfl j u hj
      have hadd : (⟨g, 0, none⟩ : Addr).add j = ⟨g, j, none⟩ := by unfold Addr.add; split <;> simp_all
      rw [hadd] at this
      exact this
def takeVal : Option Nat → Value
  | some l => .tuple #[.int .u64 (l : Int), .int .i64 0]
  | none => .tuple #[.int .u64 0, .int .i64 15]
theorem take_none {σ : St} (h : σ.list.free.getLast? = none) : σ.take = (σ.list, none) := by unfold St.take; simp only [h]
theorem take_some {σ : St} {i : Nat} (h : σ.list.free.getLast? = some i) : σ.take = ({ σ.list with free := σ.list.free.dropLast, tags := σ.list.tags.set i ((σ.list.tags.getD i (0, false)).1, true) }, some (σ.list.linkAt i)) := by unfold St.take; simp only [h]
theorem take_any {A : Book} {σ : St} {w : World} (hR : Rep A σ w) (hm : A.mp = 0) (hn : σ.free.length < 100000) (hfree : ∀ i ∈ σ.list.free, i < σ.slots) (htag : ∀ i, i < σ.slots → (σ.tags.getD i (0, false)).1 ≤ 65535) :
    Calls Tryz.prog 166 #[.pointer (some ⟨A.bp, 0, none⟩)] w fun e w' =>
      e = .returned (takeVal σ.take.2) ∧ ∃ A', PoolOnly A A' ∧ Rep A' σ.take.1 w' ∧ Grow A.L w A'.L w' := by
  have hl := list_any hR hm hn
  have hsl : σ.list.slots = σ.slots := by unfold St.list; split <;> rfl
  have htg : σ.list.tags = σ.tags := by unfold St.list; split <;> rfl
  have hb1 : σ.list.free.length < 200000 := by
    have := hR.sl
    unfold St.list
    split
    · omega
    · simp; omega
  have HL := Lib.hid hl
  have HF := Lib.hid (And.intro hfree (And.intro htag (And.intro hsl htg)))
  have HS := Lib.hid hR.sl
  clear hR hm hn hfree htag hl hsl htg
  cases hlast : σ.list.free.getLast? with
  | none =>
    rw [take_none hlast]
    generalize σ.list = σ1 at *
    have hnil : σ1.free = [] := by simpa using hlast
    have HN := Lib.hid hnil
    clear hlast hnil
    go_enter Tryz.func166, Tryz.ntmps166
    go_wp2_with (go_at_call 129; refine HL.out.mono ?_; rintro e w1 ⟨rfl, A1, ⟨⟨L1, v1, m1, rfl⟩, hm1⟩, q1, q2⟩; have p2 : w1.cell? ⟨A.bp, 2, none⟩ = some v1 := q1.pool 2 rfl; have hown := free_row q1; rw [HN.out] at hown; obtain ⟨av, capv, hv, _⟩ := Ow.own_form hown; have hv' : v1 = .slice av 0 capv := hv; rw [hv'] at p2; have HQ := Lib.hid (And.intro q1 (And.intro q2 hm1)); clear q1 q2 hown hv hv' hm1)
    go_ret2
    exact ⟨rfl, _, ⟨⟨_, _, _, rfl⟩, HQ.out.2.2⟩, HQ.out.1, HQ.out.2.1⟩
  | some i =>
    rw [take_some hlast]
    generalize σ.list = σ1 at *
    have hmem : i ∈ σ1.free := List.mem_of_getLast? hlast
    have hne : σ1.free ≠ [] := by rintro h; rw [h] at hmem; cases hmem
    have hpos : 0 < σ1.free.length := List.length_pos_iff.2 hne
    have hat : (σ1.free.map i64)[σ1.free.length - 1]? = some (.int .i64 (i : Int)) := by
      rw [List.getElem?_map, ← List.getLast?_eq_getElem?, hlast]; rfl
    have hdrop : (σ1.free.map i64).dropLast = σ1.free.dropLast.map i64 := List.map_dropLast.symm
    have hdl : σ1.free.dropLast.length = σ1.free.length - 1 := by simp
    have hi : i < σ.slots := HF.out.1 i hmem
    have htt : (σ1.tags.getD i (0, false)).1 ≤ 65535 := by rw [HF.out.2.2.2]; exact HF.out.2.1 i hi
    have hs1 : σ1.slots = σ.slots := HF.out.2.2.1
    have FACT : Hid (∀ L1 v1 m1 w1, Rep { A with L := L1, vfree := v1, mp := m1 } σ1 w1 → ∃ g cap, v1 = .slice (some ⟨g, 0, none⟩) σ1.free.length cap ∧ σ1.free.length ≤ cap ∧ cap ≤ 9223372036854775807 ∧ w1.cell? ⟨A.bp, 2, none⟩ = some (.slice (some ⟨g, 0, none⟩) σ1.free.length cap) ∧ w1.frozen? ⟨A.bp, 2, none⟩ = false ∧ w1.cell? ⟨g, σ1.free.length - 1, none⟩ = some (.int .i64 (i : Int)) ∧ w1.cell? ⟨A.bp, 0, none⟩ = some (.slice (some ⟨A.bs, 0, none⟩) σ.slots σ.slots)) := by
      intro L1 v1 m1 w1 q1
      obtain ⟨g, cap, e1, e2, e3, e4, e5⟩ := own_drop (free_row q1) hpos
      have e1' : v1 = .slice (some ⟨g, 0, none⟩) σ1.free.length cap := e1
      refine ⟨g, cap, e1', e2, e3, by rw [← e1']; exact q1.pool 2 rfl, q1.poolF 2, e5 _ _ hat, by rw [← hs1]; exact q1.pool 0 rfl⟩
    have FIN : Hid (∀ L1 v1 m1 w1 g cap, Rep { A with L := L1, vfree := v1, mp := m1 } σ1 w1 → v1 = .slice (some ⟨g, 0, none⟩) σ1.free.length cap → ∀ w2, w2 = w1.setCell ⟨A.bp, 2, none⟩ (.slice (some ⟨g, 0, none⟩) (σ1.free.length - 1) cap) → Rep { A with L := L1, vfree := .slice (some ⟨g, 0, none⟩) (σ1.free.length - 1) cap, mp := m1 } { σ1 with free := σ1.free.dropLast } w2 ∧ Grow L1 w1 L1 w2) := by
      rintro L1 v1 m1 w1 g cap q1 rfl w2 rfl
      obtain ⟨g', cap', e1, e2, e3, e4, e5⟩ := own_drop (free_row q1) hpos
      simp only [Value.slice.injEq, Option.some.injEq, Addr.mk.injEq, and_true, true_and] at e1
      obtain ⟨rfl, rfl⟩ := e1
      exact q1.freeOff σ1.free.dropLast _ (by rw [hdl, ← hdrop]; exact e4) rfl
    have hlk : ({ σ1 with free := σ1.free.dropLast, tags := σ1.tags.set i ((σ1.tags.getD i (0, false)).1, true) } : St).linkAt i = σ1.linkAt i ∧ (({ σ1 with free := σ1.free.dropLast, tags := σ1.tags.set i ((σ1.tags.getD i (0, false)).1, true) } : St).tags.getD i (0, false)).1 = (σ1.tags.getD i (0, false)).1 := by
      by_cases hlt : i < σ1.tags.length
      · unfold St.linkAt
        simp only [getD_set _ _ _ _ _ hlt, if_pos]
        exact ⟨trivial, trivial⟩
      · unfold St.linkAt
        simp [List.set_eq_of_length_le (by omega : σ1.tags.length ≤ i)]
    have AFTER : Hid (∀ L1 m1 w1 g cap, Rep { A with L := L1, vfree := .slice (some ⟨g, 0, none⟩) σ1.free.length cap, mp := m1 } σ1 w1 →
        (w1.setCell ⟨A.bp, 2, none⟩ (.slice (some ⟨g, 0, none⟩) (σ1.free.length - 1) cap)).cell? ⟨A.bs, i * 2 + 1, none⟩ = some (.bool (σ1.tags.getD i (0, false)).2) ∧ (w1.setCell ⟨A.bp, 2, none⟩ (.slice (some ⟨g, 0, none⟩) (σ1.free.length - 1) cap)).frozen? ⟨A.bs, i * 2 + 1, none⟩ = false ∧
        Rep { A with L := L1, vfree := .slice (some ⟨g, 0, none⟩) (σ1.free.length - 1) cap, mp := m1 } { σ1 with free := σ1.free.dropLast, tags := σ1.tags.set i ((σ1.tags.getD i (0, false)).1, true) } ((w1.setCell ⟨A.bp, 2, none⟩ (.slice (some ⟨g, 0, none⟩) (σ1.free.length - 1) cap)).setCell ⟨A.bs, i * 2 + 1, none⟩ (.bool true)) ∧
        Grow L1 w1 L1 ((w1.setCell ⟨A.bp, 2, none⟩ (.slice (some ⟨g, 0, none⟩) (σ1.free.length - 1) cap)).setCell ⟨A.bs, i * 2 + 1, none⟩ (.bool true)) ∧
        Calls Tryz.prog 177 #[.pointer (some ⟨A.bp, 0, none⟩), .int .i64 (i : Int)] ((w1.setCell ⟨A.bp, 2, none⟩ (.slice (some ⟨g, 0, none⟩) (σ1.free.length - 1) cap)).setCell ⟨A.bs, i * 2 + 1, none⟩ (.bool true)) fun e w' => e = .returned (.int .u64 ((σ1.linkAt i : Nat) : Int)) ∧ ((w1.setCell ⟨A.bp, 2, none⟩ (.slice (some ⟨g, 0, none⟩) (σ1.free.length - 1) cap)).setCell ⟨A.bs, i * 2 + 1, none⟩ (.bool true)) = w') := by
      rw [show i * 2 + 1 = 2 * i + 1 by omega]
      intro L1 m1 w1 g cap q1
      obtain ⟨r2, g2⟩ := FIN.out L1 _ m1 w1 g cap q1 rfl _ rfl
      have hi' : i < ({ σ1 with free := σ1.free.dropLast } : St).slots := by show i < σ1.slots; omega
      obtain ⟨r3, g3⟩ := r2.takenSet hi' true
      have hlink := link_any r3 i hi' (by rw [show (({ σ1 with free := σ1.free.dropLast, tags := σ1.tags.set i ((σ1.tags.getD i (0, false)).1, true) } : St).tags.getD i (0, false)).1 = _ from hlk.2]; exact htt)
      rw [show _ = σ1.linkAt i from hlk.1] at hlink
      exact ⟨(r2.tag hi').2, r2.tagF _, r3, g2.trans g3, hlink⟩
    have b1 : (0 : Int) ≤ (i : Int) := by omega
    have b2 : (i : Int) < (σ.slots : Int) := by omega
    have d1 : ((σ1.free.length : Int) == 0) = false := by simp; omega
    have d2 : ((σ1.free.length : Int) = 0) = False := by simp; omega
    have d3 : (σ1.free.length == 0) = false := by simp; omega
    have n1 : (1 : Int) ≤ (σ1.free.length : Int) := by omega
    have n2 : (σ1.free.length : Int) < 200000 := by omega
    have n3 : ((σ1.free.length : Int) - 1).toNat = σ1.free.length - 1 := by omega
    have n4 : IntKind.i64.wrap ((σ1.free.length : Int) - 1) = (σ1.free.length : Int) - 1 := by rw [IntKind.wrap_i64]; omega
    clear hlast hmem hne hat hdrop hdl hi htt hs1 hlk hb1 hpos FIN
    generalize hlen : σ1.free.length = n at *
    have n5 : (n : Int) - 1 < (n : Int) := by omega
    have n6 : (0 : Int) ≤ (n : Int) - 1 := by omega
    clear hlen n2
    go_enter Tryz.func166, Tryz.ntmps166
    go_wp2_with (first | (go_at_call 129; refine HL.out.mono ?_; rintro e w1 ⟨rfl, A1, ⟨⟨L1, v1, m1, rfl⟩, hm1⟩, q1, q2⟩; obtain ⟨g, cap, rfl, f1, f2, p2, z2, pc, p0⟩ := FACT.out L1 v1 m1 w1 q1; obtain ⟨t1, z1, r3, g3, hlink⟩ := AFTER.out L1 m1 w1 g cap q1; have HLK := Lib.hid hlink; have HQ := Lib.hid (And.intro r3 (And.intro (q2.trans g3) hm1)); clear q1 q2 r3 g3 hm1 hlink) | (go_at_call 177; refine HLK.out.mono ?_; rintro e w' ⟨rfl, rfl⟩))
    go_ret2
    exact ⟨rfl, _, ⟨⟨_, _, _, rfl⟩, HQ.out.2.2⟩, HQ.out.1, HQ.out.2.1⟩
end Go.Proofs.YtbefcdjcefmicaaGreat.Em

namespace Go.Proofs.YtbefcdjcefmicaaGreat.Em
open Go.ChangeShapes Go.WideShapes Go.ChangeAt Go.RowKit En
set_option linter.unusedVariables false
set_option linter.unusedSimpArgs false
set_option maxRecDepth 100000
set_option maxHeartbeats 1000000

/-- A link that leads to a slot. -/
structure VL (σ : St) (l : Nat) : Prop where
  lo : 1 ≤ l % 131072
  hi : l % 131072 ≤ σ.slots
  u : l < 18446744073709551616
theorem slotOf_lt {σ : St} {l : Nat} (h : VL σ l) : slotOf l < σ.slots := by have := h.lo; have := h.hi; unfold slotOf; omega
theorem k_get {A : Book} {σ : St} {w : World} (hR : Rep A σ w) (s : Nat) (t : Txn) (ht : σ.txns.getD s none = some t) (key link b0 b1 b2 b3 : Nat)
    (B0 : Box A.L w b0 (.pointer (some ⟨A.bt s, 0, none⟩))) (B1 : Box A.L w b1 (.int .i64 (key : Int))) (B2 : Box A.L w b2 (.pointer (some ⟨A.be, 0, none⟩))) (B3 : Box A.L w b3 (.pointer (some ⟨A.bc s, 0, none⟩)))
    (at_ : Nat) (hl : link = 0 ∨ VL σ link) (hn : t.reads.length < 1000000) :
    Calls Tryz.prog 109 #[.int .u64 (link : Int), .pointer (some ⟨b0, 0, none⟩), .pointer (some ⟨b1, 0, none⟩), .pointer (some ⟨b2, 0, none⟩), .pointer (some ⟨b3, 0, none⟩)] w (Tells A w s (σ.thn s ⟨key, at_, .get⟩ link)) := by
  have c0 := B0.cell
  have c1 := B1.cell
  have c2 := B2.cell
  have c3 := B3.cell
  by_cases h0 : link = 0
  · have hr := read_any hR s t ht key link false hn
    have e0 : (link != 0) = false := by simpa using h0
    have e1 : σ.thn s ⟨key, at_, .get⟩ link = (σ.read s key link false, .fin { e := 11 }) := by simp only [St.thn, e0, if_pos h0]
    rw [e1]
    have d1 : ((link : Int) == 0) = true := by simpa using h0
    have d2 : ((link : Int) != 0) = false := by simpa using h0
    have d3 : ((link : Int) = 0) = True := by simpa using h0
    have HR := Lib.hid hr
    have HB := Lib.hid (And.intro B2 B3)
    clear hR ht hl hn hr e1 e0 h0 B0 B1 B2 B3
    go_enter Tryz.func109, Tryz.ntmps109
    go_wp2_with (first | (go_at_call 110; refine HR.out.mono ?_; rintro e w1 ⟨rfl, A1, q1, q2, q3, q4, q5⟩; have c2 := (HB.out.1.grow q2).cell; have c3 := (HB.out.2.grow q2).cell; have HE := Lib.hid (ends_at q1 s { e := 11 } 11 0 0 0 (.slice none 0 0) rfl (.inr ⟨rfl, rfl⟩)); rw [q3.be, q3.bc] at HE; have HQ := Lib.hid (And.intro q2 q3); clear q1 q2 q3 q4 q5) | (go_at_call 107; refine HE.out.mono ?_; rintro e w2 ⟨A2, v, rfl, p1, p2, p3, p4⟩))
    go_ret
    exact ⟨A2, v, rfl, p1, HQ.out.1.trans p2, HQ.out.2.trans p3, p4⟩
  · have hv := hl.resolve_left h0
    have hr := read_any hR s t ht key link true hn
    have e0 : (link != 0) = true := by simpa using h0
    have e1 : σ.thn s ⟨key, at_, .get⟩ link = (σ.read s key link true, .fin { value := σ.valueOf link }) := by
      simp only [St.thn, e0, if_neg h0]; rfl
    rw [e1]
    have d1 : ((link : Int) == 0) = false := by simpa using h0
    have d2 : ((link : Int) != 0) = true := by simpa using h0
    have d3 : ((link : Int) = 0) = False := by simpa using h0
    have HR := Lib.hid hr
    have HB := Lib.hid (And.intro B2 (And.intro B3 hv))
    have HT := Lib.hid ht
    have H0 := Lib.hid hR.sl
    clear hR ht hl hn hr e1 B0 B1 B2 B3 hv e0 h0
    go_enter Tryz.func109, Tryz.ntmps109
    go_wp2_with (go_at_call 110; refine HR.out.mono ?_; rintro e w1 ⟨rfl, A1, q1, q2, q3, q4, q5⟩)
    obtain ⟨B2, B3, hv⟩ := HB.out
    have c2 := (B2.grow q2).cell
    have c3 := (B3.grow q2).cell
    have hd := (data_any q1.drew link hv.lo hv.hi hv.u).mono fun e w' h => (⟨h.1, h.2.symm⟩ : _ ∧ w' = w1.drew)
    have hval := (q1.drew.val (show slotOf link < (σ.read s key link true).slots from slotOf_lt (σ := σ) hv)).2
    have he := ends_at q1.drew s { value := σ.valueOf link } 0 (σ.valueOf link : Int) 0 0 (.slice none 0 0) rfl (.inr ⟨rfl, rfl⟩)
    rw [q3.be, q3.bc] at he
    rw [q3.be] at hd
    have HE := Lib.hid he
    have HD := Lib.hid hd
    have HQ := Lib.hid (And.intro q2 q3)
    have e3 : (((σ.read s key link true).values.getD (slotOf link) (0, 0)).2 : Int) = (σ.valueOf link : Int) := rfl
    rw [e3] at hval
    clear he q1 q2 q3 q4 q5 B2 B3 hd hv e3
    generalize A1.bv = bv at *
    go_wp2_with fail
    refine wp_region_still_tail 9 (by kernel_rfl) (by kernel_rfl) ?_
    simp only [List.take_succ_cons, List.take_zero, List.drop_succ_cons, List.drop_zero]
    repeat still_step
    still_call HD.out
    repeat still_step
    refine wpStill_nil ?_
    change wpList _ _ _ _ _ w1.drew
    have HG : Hid (Grow A1.L w1 A1.L w1.drew) := Grow.drew _ _
    generalize w1.drew = w3 at *
    go_wp2_with (go_at_call 107; refine HE.out.mono ?_; rintro e w2 ⟨A2, v, rfl, p1, p2, p3, p4⟩)
    go_ret
    exact ⟨A2, v, rfl, p1, (HQ.out.1.trans HG.out).trans p2, HQ.out.2.trans p3, p4⟩
end Go.Proofs.YtbefcdjcefmicaaGreat.Em

namespace Go.Proofs.YtbefcdjcefmicaaGreat.Em
open Go.ChangeShapes Go.WideShapes Go.ChangeAt Go.RowKit En
set_option linter.unusedVariables false
set_option linter.unusedSimpArgs false
set_option maxRecDepth 100000
set_option maxHeartbeats 1000000

/-- fresh at no link: the number as it stands in the walk. -/
theorem fresh_0 {A : Book} {σ : St} {w : World} (hR : Rep A σ w) (s : Nat) :
    Calls Tryz.prog 125 #[.pointer (some ⟨A.be, 0, none⟩), .pointer (some ⟨A.bt s, 0, none⟩), .pointer (some ⟨A.bc s, 0, none⟩), .int .u64 0] w (Tells A w s (σ, .fresh 0)) := fresh_any hR s 0
theorem k_change {A : Book} {σ : St} {w : World} (hR : Rep A σ w) (s : Nat) (t : Txn) (ht : σ.txns.getD s none = some t) (c : Cal) (hc : σ.calls.getD s none = some c) (key link b0 b1 b2 b3 : Nat) (hk : c.op.key = key)
    (B0 : Box A.L w b0 (.pointer (some ⟨A.bc s, 0, none⟩))) (B1 : Box A.L w b1 (.pointer (some ⟨A.bt s, 0, none⟩))) (B2 : Box A.L w b2 (.int .i64 (key : Int))) (B3 : Box A.L w b3 (.pointer (some ⟨A.be, 0, none⟩)))
    (at_ : Nat) (hn : t.reads.length < 1000000) :
    Calls Tryz.prog 124 #[.int .u64 (link : Int), .pointer (some ⟨b0, 0, none⟩), .pointer (some ⟨b1, 0, none⟩), .pointer (some ⟨b2, 0, none⟩), .pointer (some ⟨b3, 0, none⟩)] w (Tells A w s (σ.thn s ⟨key, at_, .change⟩ link)) := by
  have c0 := B0.cell
  have c1 := B1.cell
  have c2 := B2.cell
  have c3 := B3.cell
  have k0 : w.cell? ⟨A.bc s, 0, none⟩ = some (.int .i64 (c.op.kind : Int)) := hR.call hc 0 rfl
  have hcg := call_get hc
  have hr := read_any hR s t ht key link false hn
  have HR := Lib.hid hr
  have HB := Lib.hid (And.intro B0 (And.intro B1 (And.intro B2 B3)))
  have HX := Lib.hid hR
  have e0 : σ.thn s ⟨key, at_, .change⟩ link = if link ≠ 0 ∧ c.op.kind = 2 then (σ.read s key link false, .fin { e := 12 }) else if link = 0 ∧ c.op.kind ≠ 2 then (σ.read s key link false, .fin { e := 11 }) else if link = 0 then (σ, .fresh 0) else (σ, .own link) := by
    simp only [St.thn, hcg, hk]
  rw [e0]
  clear e0 hR ht hn hr B0 B1 B2 B3 hc hcg hk
  generalize c.op.kind = kd at *
  by_cases h0 : link = 0
  · by_cases h2 : kd = 2
    · rw [if_neg (by omega), if_neg (by omega), if_pos h0]
      have d1 : ((link : Int) == 0) = true := by simpa using h0
      have d2 : ((link : Int) != 0) = false := by simpa using h0
      have d3 : ((link : Int) = 0) = True := by simpa using h0
      have f1 : ((kd : Int) == 2) = true := by simp; omega
      have f2 : ((kd : Int) != 2) = false := by simp; omega
      have f3 : ((kd : Int) = 2) = True := by simp; omega
      clear h0 h2
      go_enter Tryz.func124, Tryz.ntmps124
      go_wp2_with (go_at_call 125; refine (fresh_0 HX.out s).mono ?_; rintro e w2 ⟨A2, v, rfl, p1, p2, p3, p4⟩)
      go_ret
      exact ⟨A2, v, rfl, p1, p2, p3, p4⟩
    · rw [if_neg (by omega), if_pos (by omega)]
      have d1 : ((link : Int) == 0) = true := by simpa using h0
      have d2 : ((link : Int) != 0) = false := by simpa using h0
      have d3 : ((link : Int) = 0) = True := by simpa using h0
      have f1 : ((kd : Int) == 2) = false := by simp; omega
      have f2 : ((kd : Int) != 2) = true := by simp; omega
      have f3 : ((kd : Int) = 2) = False := by simp; omega
      clear h0 h2
      go_enter Tryz.func124, Tryz.ntmps124
      go_wp2_with (first | (go_at_call 110; refine HR.out.mono ?_; rintro e w1 ⟨rfl, A1, q1, q2, q3, q4, q5⟩; have c0 := (HB.out.1.grow q2).cell; have c3 := (HB.out.2.2.2.grow q2).cell; have HE := Lib.hid (ends_at q1 s { e := 11 } 11 0 0 0 (.slice none 0 0) rfl (.inr ⟨rfl, rfl⟩)); rw [q3.be, q3.bc] at HE; have HQ := Lib.hid (And.intro q2 q3); clear q1 q2 q3 q4 q5) | (go_at_call 107; refine HE.out.mono ?_; rintro e w2 ⟨A2, v, rfl, p1, p2, p3, p4⟩))
      go_ret
      exact ⟨A2, v, rfl, p1, HQ.out.1.trans p2, HQ.out.2.trans p3, p4⟩
  · by_cases h2 : kd = 2
    · rw [if_pos (by omega)]
      have d1 : ((link : Int) == 0) = false := by simpa using h0
      have d2 : ((link : Int) != 0) = true := by simpa using h0
      have d3 : ((link : Int) = 0) = False := by simpa using h0
      have f1 : ((kd : Int) == 2) = true := by simp; omega
      have f2 : ((kd : Int) != 2) = false := by simp; omega
      have f3 : ((kd : Int) = 2) = True := by simp; omega
      clear h0 h2
      go_enter Tryz.func124, Tryz.ntmps124
      go_wp2_with (first | (go_at_call 110; refine HR.out.mono ?_; rintro e w1 ⟨rfl, A1, q1, q2, q3, q4, q5⟩; have c0 := (HB.out.1.grow q2).cell; have c3 := (HB.out.2.2.2.grow q2).cell; have HE := Lib.hid (ends_at q1 s { e := 12 } 12 0 0 0 (.slice none 0 0) rfl (.inr ⟨rfl, rfl⟩)); rw [q3.be, q3.bc] at HE; have HQ := Lib.hid (And.intro q2 q3); clear q1 q2 q3 q4 q5) | (go_at_call 107; refine HE.out.mono ?_; rintro e w2 ⟨A2, v, rfl, p1, p2, p3, p4⟩))
      go_ret
      exact ⟨A2, v, rfl, p1, HQ.out.1.trans p2, HQ.out.2.trans p3, p4⟩
    · rw [if_neg (by omega), if_neg (by omega), if_neg h0]
      have d1 : ((link : Int) == 0) = false := by simpa using h0
      have d2 : ((link : Int) != 0) = true := by simpa using h0
      have d3 : ((link : Int) = 0) = False := by simpa using h0
      have f1 : ((kd : Int) == 2) = false := by simp; omega
      have f2 : ((kd : Int) != 2) = true := by simp; omega
      have f3 : ((kd : Int) = 2) = False := by simp; omega
      clear h0 h2
      go_enter Tryz.func124, Tryz.ntmps124
      go_wp2_with (go_at_call 126; refine (own_any HX.out s link).mono ?_; rintro e w2 ⟨A2, v, rfl, p1, p2, p3, p4⟩)
      go_ret
      exact ⟨A2, v, rfl, p1, p2, p3, p4⟩
end Go.Proofs.YtbefcdjcefmicaaGreat.Em

namespace Go.Proofs.YtbefcdjcefmicaaGreat.Em
open Go.ChangeShapes Go.WideShapes Go.ChangeAt Go.RowKit En
set_option linter.unusedVariables false
set_option linter.unusedSimpArgs false
set_option maxRecDepth 100000
set_option maxHeartbeats 1000000

theorem slot_at (l : Nat) (k : Int) (n : Nat) (hk : (n : Int) = k) (h1 : 1 ≤ l % 131072) (h2 : l % 131072 ≤ 256) (hl : l < 18446744073709551616) (hn : n ≤ 2) (w : World) :
    Calls Tryz.prog 62 #[.int .u64 (l : Int), .int .i64 k] w fun e w' => e = .returned (.int .i64 ((wslot l n : Nat) : Int)) ∧ w = w' := by subst hk; exact slot_any l n h1 h2 hl hn w
theorem wslot_lt {A : Book} {σ : St} {w : World} (hR : Rep A σ w) {l k : Nat} (h1 : 1 ≤ l % 131072) (h2 : l % 131072 ≤ σ.slots) (hk : k ≤ 2) : wslot l k < σ.words.length := by rw [hR.nw]; unfold wslot slotOf; omega
theorem k_visit {A : Book} {σ : St} {w : World} (hR : Rep A σ w) (s : Nat) (t : Txn) (ht : σ.txns.getD s none = some t) (hu : Hunt) (link b0 b1 : Nat) (B0 : HuntBox (kp A σ s) A.L w b0 hu) (B1 : Box A.L w b1 (.int .u64 (link : Int)))
    (h1 : 1 ≤ link % 131072) (h2 : link % 131072 ≤ σ.slots) (hl : link < 18446744073709551616) (hx : σ.word (wslot link 0) < 18446744073709551616) (hc : σ.count < 4000000000000000000) :
    Calls Tryz.prog 180 #[.pointer (some ⟨b0, 0, none⟩), .pointer (some ⟨b1, 0, none⟩)] w (Ran A w s (σ.run s (.visit hu link))) := by
  have hsl := hR.sl
  obtain ⟨bh, X0, vt, TT, fh, hth⟩ := B0
  have c0 := X0.cell
  have c1 := B1.cell
  have h0 : w.cell? ⟨bh, 0, none⟩ = some (.pointer (some ⟨A.be, 0, none⟩)) := fh.cell 0 rfl
  have e2 : w.cell? ⟨A.be, 2, none⟩ = some (.pointer (some ⟨A.ba, 0, none⟩)) := hR.eng 2 rfl
  have HK : Hid (∀ w', Kp A w w' → w'.cell? ⟨b0, 0, none⟩ = some (.pointer (some ⟨bh, 0, none⟩)) ∧ w'.cell? ⟨b1, 0, none⟩ = some (.int .u64 (link : Int)) ∧ w'.cell? ⟨bh, 0, none⟩ = some (.pointer (some ⟨A.be, 0, none⟩)) ∧ w'.cell? ⟨A.be, 2, none⟩ = some (.pointer (some ⟨A.ba, 0, none⟩))) := by
    obtain ⟨_, x0⟩ := X0
    obtain ⟨_, x1⟩ := B1
    exact fun w' k => ⟨k.fix _ _ _ x0.1 c0, k.fix _ _ _ x1.1 c1, k.fix _ _ _ fh.1 h0, k.ea⟩
  have HS := Lib.hid (slot_at link 0 0 rfl h1 (by omega) hl (by omega))
  have HL := Lib.hid (load_any hR.drew (wslot link 0) (wslot_lt hR h1 h2 (by omega)) hc)
  have HG : Hid (Grow A.L w A.L w.drew) := Grow.drew _ _
  have hh0 : HuntAt (kp A σ s) A.L w bh hu := ⟨vt, TT, fh, hth⟩
  have HB : Hid (∀ w1, Rep A σ.tick w1 → Grow A.L w A.L w1 → Calls Tryz.prog 181 #[.pointer (some ⟨bh, 0, none⟩), .int .u64 (link : Int), .int .u64 (σ.word (wslot link 0) : Int)] w1 (Tells A w1 s (σ.tick, σ.beginK s hu link (σ.word (wslot link 0))))) :=
    fun w1 r g => begin_any r s t ht bh hu (hh0.grow g) link _ hx
  clear hR ht X0 B1 fh hth h1 h2 hl hx hc hsl hh0
  go_enter Tryz.func180, Tryz.ntmps180
  go_wp2_with fail
  go_region_held3 (fun w' => w'.cell? ⟨b0, 0, none⟩ = some (.pointer (some ⟨bh, 0, none⟩)) ∧ w'.cell? ⟨b1, 0, none⟩ = some (.int .u64 (link : Int)) ∧ w'.cell? ⟨bh, 0, none⟩ = some (.pointer (some ⟨A.be, 0, none⟩)) ∧ w'.cell? ⟨A.be, 2, none⟩ = some (.pointer (some ⟨A.ba, 0, none⟩)))
    (first | exact ⟨c0, c1, h0, e2⟩ | assumption | exact HK.out _ (Kp.of (by assumption) (by assumption) (by assumption)))
    (first | (go_at_call 62; refine (HS.out _).mono ?_; rintro e w' ⟨rfl, rfl⟩) | (go_at_call 73; refine HL.out.mono ?_; rintro e w1 ⟨rfl, q1, q2⟩; have q4 := HG.out.trans q2; have q3 := Stay.refl A s; clear q2) | (go_at_call 181; refine (HB.out _ (by assumption) (by assumption)).mono ?_; rintro e w2 ⟨A', v, rfl, p1, p2, p3, p4⟩; have p5 := (‹Grow A.L w A.L _›).trans p2))
  go_wp2_with fail
  go_ret
  exact ⟨A', _, rfl, p1, p5, p3, p4⟩
end Go.Proofs.YtbefcdjcefmicaaGreat.Em

namespace Go.Proofs.YtbefcdjcefmicaaGreat.Em
open Go.ChangeShapes Go.WideShapes Go.ChangeAt Go.RowKit En
set_option linter.unusedVariables false
set_option linter.unusedSimpArgs false
set_option maxRecDepth 100000
set_option maxHeartbeats 1000000

theorem flip {P : Program} {f : FuncId} {args : Array Value} {w : World} {v : Value} (h : Calls P f args w fun e w' => e = .returned v ∧ w = w') : Calls P f args w fun e w' => e = .returned v ∧ w' = w := h.mono fun _ _ h => ⟨h.1, h.2.symm⟩
theorem forever_still (w : World) : Calls Tryz.prog 121 #[] w fun e w' => e = .returned (.int .u64 ((ever : Nat) : Int)) ∧ w' = w := flip (Word.forever_any w)
theorem k_slotB {A : Book} {σ : St} {w : World} (hR : Rep A σ w) (s : Nat) (t : Txn) (ht : σ.txns.getD s none = some t) (b0 b1 b2 b3 b4 b5 : Nat) (x : Bool) (link head : Nat)
    (B0 : Box A.L w b0 (.pointer (some ⟨A.be, 0, none⟩))) (B1 : Box A.L w b1 (.int .u64 (link : Int))) (B2 : Box A.L w b2 (.pointer (some ⟨A.bt s, 0, none⟩))) (B3 : Box A.L w b3 ((kp A σ s).xo x)) (B4 : Box A.L w b4 (.pointer (some ⟨A.bc s, 0, none⟩))) (B5 : HeadBox A.L w b5 x head)
    (hc : σ.count < 4000000000000000000) (hv : VL σ link) (h1 : 1 ≤ t.id) (h2 : t.id ≤ 65535) :
    Calls Tryz.prog 167 #[.pointer (some ⟨b0, 0, none⟩), .pointer (some ⟨b1, 0, none⟩), .pointer (some ⟨b2, 0, none⟩), .pointer (some ⟨b3, 0, none⟩), .pointer (some ⟨b4, 0, none⟩), .pointer (some ⟨b5, 0, none⟩)] w (Ran A w s (σ.run s (.slotB x link head))) := by
  have c0 := B0.cell
  have c1 := B1.cell
  have c2 := B2.cell
  have c3 := B3.cell
  have c4 := B4.cell
  have e2 : w.cell? ⟨A.be, 2, none⟩ = some (.pointer (some ⟨A.ba, 0, none⟩)) := hR.eng 2 rfl
  have hsl := hR.sl
  have G0 : Grow A.L w A.L w.drew := Grow.drew _ _
  have HS := Lib.hid (flip (slot_at link 0 0 rfl hv.lo (by have := hv.hi; omega) hv.u (by omega) w.drew))
  have HM := Lib.hid (flip (mine_any hR.drew s t ht h1 h2))
  have HL := Lib.hid (store_any hR.drew (wslot link 0) (mine t) (wslot_lt hR hv.lo hv.hi (by omega)) hc)
  have hrun : σ.run s (.slotB x link head) = (σ.put (wslot link 0) (mine t), some (.slotE x link head)) := by simp only [St.run, txn_get ht]
  rw [hrun]
  clear hrun ht hv h1 h2
  have HG := Lib.hid G0
  have HB := Lib.hid ((And.intro B0 (And.intro B1 (And.intro B2 (And.intro B3 (And.intro B4 B5))))))
  clear hR hsl hc G0 B0 B1 B2 B3 B4 B5
  go_enter Tryz.func167, Tryz.ntmps167
  go_wp2_with fail
  refine wp_region_still_tail 8 (by kernel_rfl) (by kernel_rfl) ?_
  simp only [List.take_succ_cons, List.take_zero, List.drop_succ_cons, List.drop_zero]
  repeat still_step
  still_call HS.out
  repeat still_step
  still_call HM.out
  repeat still_step
  refine wpStill_nil ?_
  change wpList _ _ _ _ _ w.drew
  generalize w.drew = wd at *
  go_wp2_with (go_at_call 77; refine HL.out.mono ?_; rintro e w1 ⟨rfl, q1, q2⟩)
  go_ret
  obtain ⟨B0, B1, B2, B3, B4, B5⟩ := HB.out
  exact ⟨A, _, rfl, q1, HG.out.trans q2, Stay.refl _ _, _, _, _, _, _, _, rfl, B0.grow (HG.out.trans q2), B1.grow (HG.out.trans q2), B3.grow (HG.out.trans q2), B2.grow (HG.out.trans q2), B4.grow (HG.out.trans q2), B5.grow (HG.out.trans q2)⟩
theorem k_push {A : Book} {σ : St} {w : World} (hR : Rep A σ w) (s : Nat) (t : Txn) (ht : σ.txns.getD s none = some t) (b0 b1 b2 b3 b4 : Nat) (link head : Nat)
    (B0 : Box A.L w b0 (.pointer (some ⟨A.be, 0, none⟩))) (B1 : Box A.L w b1 (.int .u64 (link : Int))) (B2 : Box A.L w b2 (.int .u64 (head : Int))) (B3 : Box A.L w b3 (.pointer (some ⟨A.bc s, 0, none⟩))) (B4 : Box A.L w b4 (.pointer (some ⟨A.bt s, 0, none⟩)))
    (hc : σ.count < 4000000000000000000) (hv : VL σ link) :
    Calls Tryz.prog 188 #[.pointer (some ⟨b0, 0, none⟩), .pointer (some ⟨b1, 0, none⟩), .pointer (some ⟨b2, 0, none⟩), .pointer (some ⟨b3, 0, none⟩), .pointer (some ⟨b4, 0, none⟩)] w (Ran A w s (σ.run s (.push link head))) := by
  have c0 := B0.cell
  have c1 := B1.cell
  have c2 := B2.cell
  have c3 := B3.cell
  have c4 := B4.cell
  have e2 : w.cell? ⟨A.be, 2, none⟩ = some (.pointer (some ⟨A.ba, 0, none⟩)) := hR.eng 2 rfl
  have hsl := hR.sl
  have G0 : Grow A.L w A.L w.drew := Grow.drew _ _
  have HS := Lib.hid (flip (slot_at link 2 2 rfl hv.lo (by have := hv.hi; omega) hv.u (by omega) w.drew))
  have HL := Lib.hid (store_any hR.drew (wslot link 2) head (wslot_lt hR hv.lo hv.hi (by omega)) hc)
  have hrun : σ.run s (.push link head) = (σ.put (wslot link 2) head, some (.pushC link head)) := rfl
  rw [hrun]
  clear hrun ht hv
  have HG := Lib.hid G0
  have HB := Lib.hid ((And.intro B0 (And.intro B1 (And.intro B2 (And.intro B3 B4)))))
  clear hR hsl hc G0 B0 B1 B2 B3 B4
  go_enter Tryz.func188, Tryz.ntmps188
  go_wp2_with fail
  refine wp_region_still_tail 7 (by kernel_rfl) (by kernel_rfl) ?_
  simp only [List.take_succ_cons, List.take_zero, List.drop_succ_cons, List.drop_zero]
  repeat still_step
  still_call HS.out
  repeat still_step
  refine wpStill_nil ?_
  change wpList _ _ _ _ _ w.drew
  generalize w.drew = wd at *
  go_wp2_with (go_at_call 77; refine HL.out.mono ?_; rintro e w1 ⟨rfl, q1, q2⟩)
  go_ret
  obtain ⟨B0, B1, B2, B3, B4⟩ := HB.out
  exact ⟨A, _, rfl, q1, HG.out.trans q2, Stay.refl _ _, _, _, _, _, _, rfl, B0.grow (HG.out.trans q2), B3.grow (HG.out.trans q2), B2.grow (HG.out.trans q2), B1.grow (HG.out.trans q2), B4.grow (HG.out.trans q2)⟩
theorem k_overN {A : Book} {σ : St} {w : World} (hR : Rep A σ w) (s : Nat) (t : Txn) (ht : σ.txns.getD s none = some t) (b0 b1 b2 b3 b4 b5 : Nat) (link head : Nat)
    (B0 : Box A.L w b0 (.pointer (some ⟨A.be, 0, none⟩))) (B1 : Box A.L w b1 (.int .u64 (link : Int))) (B2 : Box A.L w b2 (.int .u64 (head : Int))) (B3 : Box A.L w b3 (.pointer (some ⟨A.bc s, 0, none⟩))) (B4 : Box A.L w b4 (.pointer (some ⟨A.bt s, 0, none⟩))) (B5 : Box A.L w b5 ((kp A σ s).xo true))
    (hc : σ.count < 4000000000000000000) (hv : VL σ link) :
    Calls Tryz.prog 191 #[.pointer (some ⟨b0, 0, none⟩), .pointer (some ⟨b1, 0, none⟩), .pointer (some ⟨b2, 0, none⟩), .pointer (some ⟨b3, 0, none⟩), .pointer (some ⟨b4, 0, none⟩), .pointer (some ⟨b5, 0, none⟩)] w (Ran A w s (σ.run s (.overN link head))) := by
  have c0 := B0.cell
  have c1 := B1.cell
  have c2 := B2.cell
  have c3 := B3.cell
  have c4 := B4.cell
  have c5 := B5.cell
  have e2 : w.cell? ⟨A.be, 2, none⟩ = some (.pointer (some ⟨A.ba, 0, none⟩)) := hR.eng 2 rfl
  have hsl := hR.sl
  have G0 : Grow A.L w A.L w.drew := Grow.drew _ _
  have HS := Lib.hid (flip (slot_at link 2 2 rfl hv.lo (by have := hv.hi; omega) hv.u (by omega) w.drew))
  have HL := Lib.hid (store_any hR.drew (wslot link 2) head (wslot_lt hR hv.lo hv.hi (by omega)) hc)
  have hrun : σ.run s (.overN link head) = (σ.put (wslot link 2) head, some (.overC link head)) := rfl
  rw [hrun]
  clear hrun ht hv
  have HG := Lib.hid G0
  have HB := Lib.hid ((And.intro B0 (And.intro B1 (And.intro B2 (And.intro B3 (And.intro B4 B5))))))
  clear hR hsl hc G0 B0 B1 B2 B3 B4 B5
  go_enter Tryz.func191, Tryz.ntmps191
  go_wp2_with fail
  refine wp_region_still_tail 7 (by kernel_rfl) (by kernel_rfl) ?_
  simp only [List.take_succ_cons, List.take_zero, List.drop_succ_cons, List.drop_zero]
  repeat still_step
  still_call HS.out
  repeat still_step
  refine wpStill_nil ?_
  change wpList _ _ _ _ _ w.drew
  generalize w.drew = wd at *
  go_wp2_with (go_at_call 77; refine HL.out.mono ?_; rintro e w1 ⟨rfl, q1, q2⟩)
  go_ret
  obtain ⟨B0, B1, B2, B3, B4, B5⟩ := HB.out
  exact ⟨A, _, rfl, q1, HG.out.trans q2, Stay.refl _ _, _, _, _, _, _, _, rfl, B0.grow (HG.out.trans q2), B3.grow (HG.out.trans q2), B2.grow (HG.out.trans q2), B1.grow (HG.out.trans q2), B4.grow (HG.out.trans q2), B5.grow (HG.out.trans q2)⟩
end Go.Proofs.YtbefcdjcefmicaaGreat.Em
