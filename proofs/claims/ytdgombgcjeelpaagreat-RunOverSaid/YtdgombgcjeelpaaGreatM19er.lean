/- Texts of this claim, laid together: Be, Kf, Bo. -/
import Derived.Test.YtdgombgcjeelpaaGreatM18er
import Derived.Test.YtdgombgcjeelpaaGreatM8er
import Derived.Test.YtdgombgcjeelpaaGreatM9er
import Derived.Test.YtdgombgcjeelpaaGreatM10er
import Derived.Test.YtdgombgcjeelpaaGreatM11er
import Derived.Test.YtdgombgcjeelpaaGreatM4er
import Derived.Test.YtdgombgcjeelpaaGreatM12er
import Derived.Test.YtdgombgcjeelpaaGreatM17er
import Derived.Test.YtdgombgcjeelpaaGreatM15er
import Derived.Test.YtdgombgcjeelpaaGreatM16er
namespace Go.Proofs.YtdgombgcjeelpaaGreat.Em
open Go.ChangeShapes Go.WideShapes Go.ChangeAt Go.RowKit En
set_option linter.unusedVariables false
set_option linter.unusedSimpArgs false
set_option maxRecDepth 100000
set_option maxHeartbeats 1600000

def txnOf (id level bg : Nat) : Txn := { id := id, level := level, begin_ := bg, end_ := 0, ops := 0, keys := [], cells := [], reads := [], bonds := [], over := false }
theorem help_count (σ : St) (x : Nat) : (σ.help x).count = σ.count + 1 := by unfold St.help St.cas; split <;> rfl
theorem help_place (σ : St) (x id : Nat) : (σ.help x).place id = σ.place id := by unfold St.help St.cas; split <;> rfl
theorem help_tale (σ : St) (x : Nat) : (σ.help x).tale = σ.tale := by unfold St.help St.cas; split <;> rfl
theorem cas_count (σ : St) (i a b : Nat) : (σ.cas i a b).count = σ.count + 1 := by unfold St.cas; split <;> rfl
theorem cas_place (σ : St) (i a b id : Nat) : (σ.cas i a b).place id = σ.place id := by unfold St.cas; split <;> rfl
theorem cas_txns (σ : St) (i a b : Nat) : (σ.cas i a b).txns = σ.txns := by unfold St.cas; split <;> rfl
theorem cas_calls (σ : St) (i a b : Nat) : (σ.cas i a b).calls = σ.calls := by unfold St.cas; split <;> rfl
theorem cas_tale (σ : St) (i a b : Nat) : (σ.cas i a b).tale = σ.tale := by unfold St.cas; split <;> rfl
/-- A transaction has begun. -/
def Begun (A : Book) (w : World) (σ' : St) (id : Nat) : Ending → World → Prop := fun e w' => ∃ A', e = .returned (.tuple #[.int .i64 (id : Int), .int .i64 0]) ∧ Live A' σ' w' ∧ Grow A.L w A'.L w' ∧ A'.be = A.be
theorem begin_new {A : Book} {σ : St} {w : World} (hL : Live A σ w) (s : Nat) (hs : s < 8) (level : Nat) (hl1 : 1 ≤ level) (hl2 : level ≤ 3) (hn : σ.txns.getD s none = none) (hcn : σ.calls.getD s none = none) (hmd : σ.made < 2000) (hx : σ.word 0 < 18446744073709551616) (htm : timeOf (σ.word 0) < 281474976710000) (hlim : timeOf (σ.word 0) < σ.limit) (hlo : lastOf (σ.word 0) = 0) (hcnt : σ.count < 3000000000000000000) (htl : σ.tale.length < 1000000) :
    Calls Tryz.prog 35 #[.pointer (some ⟨A.be, 0, none⟩), .int .i64 (s : Int), .int .i64 (level : Int)] w (Begun A w (((((({ σ.tick with made := σ.made + 1 } : St).cas 0 (σ.word 0) (clockW (timeOf (σ.word 0) + 1) 0)).put (σ.place (σ.made + 1)) (pack 1 0)).put (1 + s) (timeOf (σ.word 0) + 1)).setT s (txnOf (σ.made + 1) level (timeOf (σ.word 0) + 1))).event { kind := 1, t := σ.made + 1, n := timeOf (σ.word 0) + 1, op := ⟨0, 0, 0, level⟩ }) (σ.made + 1)) := by
  have hR := hL.rep
  generalize hσ4 : ({ σ.tick with made := σ.made + 1 } : St).cas 0 (σ.word 0) (clockW (timeOf (σ.word 0) + 1) 0) = σ4
  have HS4 : Hid (({ σ.tick with made := σ.made + 1 } : St).cas 0 (σ.word 0) (clockW (timeOf (σ.word 0) + 1) 0) = σ4 ∧ σ4.place (σ.made + 1) = σ.place (σ.made + 1) ∧ σ4.txns = σ.txns ∧ σ4.calls = σ.calls ∧ σ4.tale = σ.tale ∧ σ4.count < 3000000000000000010) := by
    refine ⟨hσ4, ?_, ?_, ?_, ?_, ?_⟩ <;> rw [← hσ4]
    · rw [cas_place]; rfl
    · rw [cas_txns]; rfl
    · rw [cas_calls]; rfl
    · rw [cas_tale]; rfl
    · rw [cas_count]; show σ.count + 1 + 1 < _; omega
  clear hσ4
  have b1 : (s : Int) < 8 := by omega
  have b0 : (0 : Int) ≤ (s : Int) := by omega
  have hsok := Lib.hid (sessionOk s hs)
  have hlev := Lib.hid (levelOk level hl1 hl2)
  have e2 : w.cell? ⟨A.be, 2, none⟩ = some (.pointer (some ⟨A.ba, 0, none⟩)) := hR.eng 2 rfl
  have v5 := hR.eng (5 + s) (engCs_txn A σ hs)
  rw [show A.tp σ s = .pointer none by unfold Book.tp; rw [hn]] at v5
  have v21 : w.cell? ⟨A.be, 21, none⟩ = some (.int .i64 (σ.made : Int)) := hR.eng 21 rfl
  have d1 : decide ((2000 : Int) ≤ (σ.made : Int)) = false := by simp; omega
  have d2 : ((2000 : Int) ≤ (σ.made : Int)) = False := by simp; omega
  have d3 : (2000 ≤ σ.made) = False := by simp; omega
  have l1 : decide ((σ.limit : Int) ≤ (timeOf (σ.word 0) : Int)) = false := by simp; omega
  have l2 : ((σ.limit : Int) ≤ (timeOf (σ.word 0) : Int)) = False := by simp; omega
  have l3 : (σ.limit ≤ timeOf (σ.word 0)) = False := by simp; omega
  have k1 : decide ((0 : Int) < (lastOf (σ.word 0) : Int)) = false := by simp; omega
  have k2 : ((0 : Int) < (lastOf (σ.word 0) : Int)) = False := by simp; omega
  have k3 : (0 < lastOf (σ.word 0)) = False := by simp; omega
  have n1 : IntKind.i64.wrap ((σ.made : Int) + 1) = (σ.made : Int) + 1 := by rw [IntKind.wrap_i64]; omega
  have n2 : IntKind.u64.wrap ((timeOf (σ.word 0) : Int) + 1) = (timeOf (σ.word 0) : Int) + 1 := by rw [IntKind.wrap_u64]; omega
  have n3 : IntKind.i64.wrap (1 + (s : Int)) = 1 + (s : Int) := by rw [IntKind.wrap_i64]; omega
  have HLo := Lib.hid (load_i hR 0 0 rfl (by rw [hR.nw]; omega) (by omega))
  have HDr := Lib.hid (fun w' => drawn_any (σ.word 0) hx w')
  have H1 : Hid (∀ w1, Rep A σ.tick w1 → Grow A.L w A.L w1 → w1.cell? ⟨A.be, 1, none⟩ = some (.int .u64 (σ.limit : Int)) ∧ w1.cell? ⟨A.be, 21, none⟩ = some (.int .i64 (σ.made : Int)) ∧ w1.frozen? ⟨A.be, 21, none⟩ = false) :=
    fun w1 r g => ⟨r.eng 1 rfl, r.eng 21 rfl, r.engF 21⟩
  have hmm : ∀ w, (Instr.makeMap 106 none).run Tryz.prog w = .ok (.map (some w.heap.size)) (w.alloc (.map #[] 0)) := fun w => rfl
  have HL0 := Lib.hid (And.intro hL (And.intro hs (And.intro hn (And.intro hcn (And.intro hmd (And.intro htm (And.intro hcnt (And.intro htl hx))))))))
  clear hL hs hl1 hl2 hn hcn hmd hx htm hlim hlo hcnt htl
  clear hR
  go_enter Tryz.func35, Tryz.ntmps35
  go_wp2_with (first | (go_at_call 43; refine (hsok.out _).mono ?_; rintro e w' ⟨rfl, rfl⟩) | (go_at_call 65; refine (hlev.out _).mono ?_; rintro e w' ⟨rfl, rfl⟩) | (go_at_call 66; refine HLo.out.mono ?_; rintro e w1 ⟨rfl, q1, q2⟩; obtain ⟨y1, y2, y3⟩ := H1.out w1 q1 q2; have HQ1 := Lib.hid (And.intro q1 q2); clear q1 q2) | (go_at_call 55; refine (HDr.out _).mono ?_; rintro e w' ⟨rfl, rfl⟩))
  obtain ⟨hL, hs, hn, hcn, hmd, htm, hcnt, htl, hx⟩ := HL0.out
  obtain ⟨r1, g1⟩ := HQ1.out
  obtain ⟨rm, gm⟩ := r1.madeSet (σ.made + 1)
  rw [show ((σ.made + 1 : Nat) : Int) = (σ.made : Int) + 1 from rfl] at rm gm
  have hz3 : (w1.setCell ⟨A.be, 21, none⟩ (.int .i64 ((σ.made : Int) + 1))).heap.size = w1.heap.size := by simp [World.setCell]
  generalize hw3 : w1.setCell ⟨A.be, 21, none⟩ (.int .i64 ((σ.made : Int) + 1)) = w3 at *
  generalize hw4 : (w3.alloc (.map #[] 0)).alloc _ = w4
  have r4 : Rep A ({ σ.tick with made := σ.made + 1 } : St) w4 := by rw [← hw4]; exact (rm.alloc _).alloc _
  have g34 : Grow A.L w3 A.L w4 := by rw [← hw4]; exact (Grow.alloc _ _ _).trans (Grow.alloc _ _ _)
  have g4 : Grow A.L w A.L w4 := (g1.trans gm).trans g34
  have hm4 : w4.heap[w1.heap.size]? = some (.map #[] 0) := by rw [← hw4, ← hz3]; exact (Below.heap_alloc _ _ _ (by simp)).trans (heap_alloc_new w3 _)
  have hb4 : w4.heap[w1.heap.size + 1]? = some (.cells #[.int .i64 ((σ.made : Int) + 1), .int .i64 (level : Int), .int .i64 (s : Int), .int .u64 ((timeOf (σ.word 0) : Int) + 1), .int .u64 0, .int .i64 0, .slice none 0 0, .map (some w1.heap.size), .slice none 0 0, .slice none 0 0, .int .u32 0, .int .i32 0, .int .u32 0, .bool false] 121) := by rw [← hw4, ← hz3]; exact heap_alloc2_new w3 _ _
  have hmL : A.L w1.heap.size = none := by rw [← hz3]; exact rm.mem.fresh _ (Nat.le_refl _)
  have hbL : A.L (w1.heap.size + 1) = none := by rw [← hz3]; exact rm.mem.fresh _ (by omega)
  have hle : w.heap.size ≤ w1.heap.size := g1.size
  have F4 : Fix A.L w4 (w1.heap.size + 1) (.cells #[.int .i64 ((σ.made : Int) + 1), .int .i64 (level : Int), .int .i64 (s : Int), .int .u64 ((timeOf (σ.word 0) : Int) + 1), .int .u64 0, .int .i64 0, .slice none 0 0, .map (some w1.heap.size), .slice none 0 0, .slice none 0 0, .int .u32 0, .int .i32 0, .int .u32 0, .bool false] 121) := ⟨hbL, hb4⟩
  have M4 : Fix A.L w4 w1.heap.size (.map #[] 0) := ⟨hmL, hm4⟩
  have a2 := r4.eng 2 (v := .pointer (some ⟨A.ba, 0, none⟩)) rfl
  have a3 := F4.cell 3 (v := .int .u64 ((timeOf (σ.word 0) : Int) + 1)) rfl
  have hk : Calls Tryz.prog 69 #[.int .u64 ((timeOf (σ.word 0) : Int) + 1), .int .i64 0] w4.drew fun e w' => e = .returned (.int .u64 ((clockW (timeOf (σ.word 0) + 1) 0 : Nat) : Int)) ∧ w' = w4.drew := flip (clock_any (timeOf (σ.word 0) + 1) 0 (by omega) (by omega) w4.drew)
  have HC := Lib.hid hk
  have HCA := Lib.hid (cas_i r4.drew 0 (σ.word 0) (clockW (timeOf (σ.word 0) + 1) 0) 0 rfl (by rw [r4.nw]; omega) (by show σ.count + 1 < _; omega))
  have H4 := Lib.hid (And.intro g4 (And.intro F4 (And.intro M4 (And.intro hmL (And.intro hbL hle)))))
  clear hL hs hn hcn hmd htm hcnt htl hx r1 g1 rm gm hz3 hw3 hw4 r4 g34 g4 hm4 hb4 hmL hbL hle F4 M4 hk
  refine wp_region_still_tail 10 (by kernel_rfl) (by kernel_rfl) ?_
  simp only [List.take_succ_cons, List.take_zero, List.drop_succ_cons, List.drop_zero]
  repeat still_step
  still_call HC.out
  refine wpStill_nil ?_
  change wpList _ _ _ _ _ w4.drew
  have HG4 : Hid (Grow A.L w4 A.L w4.drew) := Grow.drew _ _
  generalize w4.drew = wd4 at *
  go_wp2_with (go_at_call 68; refine HCA.out.mono ?_; rintro e w5 ⟨rfl, q1, q2⟩)
  obtain ⟨g4, F4, M4, hmL, hbL, hle⟩ := H4.out
  obtain ⟨hL, hs, hn, hcn, hmd, htm, hcnt, htl, hx⟩ := HL0.out
  rw [HS4.out.1] at q1
  obtain ⟨-, p4, tx4, cl4, tl4, ct4⟩ := HS4.out
  have g45 := HG4.out.trans q2
  have F5 := F4.grow g45
  have M5 := M4.grow g45
  have g5 := g4.trans g45
  have a2 := q1.eng 2 (v := .pointer (some ⟨A.ba, 0, none⟩)) rfl
  have a0 := F5.cell 0 (v := .int .i64 ((σ.made : Int) + 1)) rfl
  have hpl : Calls Tryz.prog 71 #[.pointer (some ⟨A.be, 0, none⟩), .int .i64 ((σ.made : Int) + 1)] w5.drew fun e w' => e = .returned (.int .i64 ((σ.place (σ.made + 1) : Nat) : Int)) ∧ w' = w5.drew := by
    have h := place_still q1.drew (σ.made + 1) (by omega)
    rw [p4] at h
    exact h
  have HPL := Lib.hid hpl
  have HPK := Lib.hid (pack_still 1 0 1 0 rfl rfl (by omega) (by omega) w5.drew)
  have HST := Lib.hid (store_any q1.drew (σ.place (σ.made + 1)) (pack 1 0) (by rw [q1.nw]; have := q1.sl; have := congrArg (fun x => x) p4; unfold St.place at p4 ⊢; omega) (by omega))
  have H5 := Lib.hid (And.intro g5 (And.intro F5 (And.intro M5 q1)))
  clear hL hs hn hcn hmd htm hcnt htl hx g4 F4 M4 hmL hbL hle g45 F5 M5 g5 q1 q2 hpl p4 tx4 cl4 tl4 ct4
  refine wp_region_still_tail 11 (by kernel_rfl) (by kernel_rfl) ?_
  simp only [List.take_succ_cons, List.take_zero, List.drop_succ_cons, List.drop_zero]
  repeat still_step
  still_call HPL.out
  still_call HPK.out
  refine wpStill_nil ?_
  change wpList _ _ _ _ _ w5.drew
  have HG6 : Hid (Grow A.L w5 A.L w5.drew) := Grow.drew _ _
  generalize w5.drew = wd5 at *
  go_wp2_with (go_at_call 70; refine HST.out.mono ?_; rintro e w6 ⟨rfl, q1, q2⟩)
  obtain ⟨g5, F5, M5, _⟩ := H5.out
  obtain ⟨hL, hs, hn, hcn, hmd, htm, hcnt, htl, hx⟩ := HL0.out
  have ct4 := HS4.out.2.2.2.2.2
  have g56 := HG6.out.trans q2
  have F6 := F5.grow g56
  have M6 := M5.grow g56
  have g6 := g5.trans g56
  have a2 := q1.eng 2 (v := .pointer (some ⟨A.ba, 0, none⟩)) rfl
  have a3 := F6.cell 3 (v := .int .u64 ((timeOf (σ.word 0) : Int) + 1)) rfl
  have HSU := Lib.hid (store_i q1.drew (1 + s) (timeOf (σ.word 0) + 1) (1 + (s : Int)) ((timeOf (σ.word 0) : Int) + 1) (by omega) (by omega) (by rw [q1.nw]; omega) (by show σ4.count + 1 < _; omega))
  have H6 := Lib.hid (And.intro g6 (And.intro F6 M6))
  have HV5 : Hid (∀ w7, Rep A ((σ4.put (σ.place (σ.made + 1)) (pack 1 0)).put (1 + s) (timeOf (σ.word 0) + 1)) w7 → w7.cell? ⟨A.be, 5 + s, none⟩ = some (.pointer none) ∧ w7.frozen? ⟨A.be, 5 + s, none⟩ = false) := by
    intro w7 r
    have h := r.eng (5 + s) (engCs_txn A _ hs)
    rw [show A.tp ((σ4.put (σ.place (σ.made + 1)) (pack 1 0)).put (1 + s) (timeOf (σ.word 0) + 1)) s = .pointer none by unfold Book.tp; rw [show ((σ4.put (σ.place (σ.made + 1)) (pack 1 0)).put (1 + s) (timeOf (σ.word 0) + 1)).txns.getD s none = none by show σ4.txns.getD s none = none; rw [HS4.out.2.2.1]; exact hn]] at h
    exact ⟨h, r.engF _⟩
  clear hL hs hn hcn hmd htm hcnt htl hx g5 F5 M5 g56 F6 M6 g6 q1 q2 ct4
  refine wp_region_still_tail 10 (by kernel_rfl) (by kernel_rfl) ?_
  simp only [List.take_succ_cons, List.take_zero, List.drop_succ_cons, List.drop_zero]
  repeat still_step
  refine wpStill_nil ?_
  change wpList _ _ _ _ _ w6.drew
  have HG7 : Hid (Grow A.L w6 A.L w6.drew) := Grow.drew _ _
  generalize w6.drew = wd6 at *
  go_wp2_with (go_at_call 70; refine HSU.out.mono ?_; rintro e w7 ⟨rfl, q1, q2⟩; obtain ⟨m5, z5⟩ := HV5.out w7 q1; have H7 := Lib.hid (And.intro q1 q2); clear q1 q2)
  obtain ⟨g6, F6, M6⟩ := H6.out
  obtain ⟨q1, q2⟩ := H7.out
  obtain ⟨_, _, _, hmL, hbL, hle⟩ := H4.out
  obtain ⟨hL, hs, hn, hcn, hmd, htm, hcnt, htl, hx⟩ := HL0.out
  obtain ⟨-, p4, tx4, cl4, tl4, ct4⟩ := HS4.out
  have g67 := HG7.out.trans q2
  have F7 := F6.grow g67
  have M7 := M6.grow g67
  have g7 := g6.trans g67
  have hn6 : ((σ4.put (σ.place (σ.made + 1)) (pack 1 0)).put (1 + s) (timeOf (σ.word 0) + 1)).txns.getD s none = none := by show σ4.txns.getD s none = none; rw [tx4]; exact hn
  have hblk : w7.heap[w1.heap.size + 1]? = some (.cells (txnCs (A.newTxn s (w1.heap.size + 1) w1.heap.size) s (txnOf (σ.made + 1) level (timeOf (σ.word 0) + 1))).toArray 121) := by
    rw [show (txnCs (A.newTxn s (w1.heap.size + 1) w1.heap.size) s (txnOf (σ.made + 1) level (timeOf (σ.word 0) + 1))).toArray = #[.int .i64 ((σ.made : Int) + 1), .int .i64 (level : Int), .int .i64 (s : Int), .int .u64 ((timeOf (σ.word 0) : Int) + 1), .int .u64 0, .int .i64 0, .slice none 0 0, .map (some w1.heap.size), .slice none 0 0, .slice none 0 0, .int .u32 0, .int .i32 0, .int .u32 0, .bool false] by simp [txnCs, Book.newTxn, upF, onceCs, txnOf]]
    exact F7.2
  obtain ⟨rA, gA⟩ := q1.adoptTxn g7 F7.1 M7.1 hs (by omega) hle (by omega) (txnOf (σ.made + 1) level (timeOf (σ.word 0) + 1)) rfl rfl rfl rfl hblk M7.2 hn6
  obtain ⟨A8, hA8⟩ : ∃ A8 : Book, A8 = A.newTxn s (w1.heap.size + 1) w1.heap.size := ⟨_, rfl⟩
  rw [← hA8] at rA gA
  have e8 : A8.be = A.be := by rw [hA8]; rfl
  have e8t : A8.bt s = w1.heap.size + 1 := by rw [hA8]; exact if_pos rfl
  have ht8 : (((σ4.put (σ.place (σ.made + 1)) (pack 1 0)).put (1 + s) (timeOf (σ.word 0) + 1)).setT s (txnOf (σ.made + 1) level (timeOf (σ.word 0) + 1))).txns.getD s none = some (txnOf (σ.made + 1) level (timeOf (σ.word 0) + 1)) := by rw [getT_set (by show s < σ4.txns.length; rw [tx4, hL.rep.n8]; exact hs), if_pos rfl]
  generalize hw8 : World.setCell w7 _ _ = w8 at *
  have c0 := rA.txn ht8 0 (v := .int .i64 ((σ.made : Int) + 1)) rfl
  have c3 := rA.txn ht8 3 (v := .int .u64 ((timeOf (σ.word 0) : Int) + 1)) rfl
  rw [e8t] at c0 c3
  have hev := event_any rA.drew s { kind := 1, t := σ.made + 1, n := timeOf (σ.word 0) + 1, op := ⟨0, 0, 0, level⟩ } 1 ((σ.made : Int) + 1) ((timeOf (σ.word 0) : Int) + 1) 0 0 0 level 0 0 0 0 none 0 0 rfl (PRow.nil _ _) (by show σ4.tale.length < _; rw [tl4]; exact htl)
  rw [e8] at hev
  have HE := Lib.hid hev
  have H8 : Hid (∀ A9 w9, Rep A9 ((((σ4.put (σ.place (σ.made + 1)) (pack 1 0)).put (1 + s) (timeOf (σ.word 0) + 1)).setT s (txnOf (σ.made + 1) level (timeOf (σ.word 0) + 1))).event { kind := 1, t := σ.made + 1, n := timeOf (σ.word 0) + 1, op := ⟨0, 0, 0, level⟩ }) w9 → Stay A8 A9 s → w9.cell? ⟨w1.heap.size + 1, 0, none⟩ = some (.int .i64 ((σ.made : Int) + 1))) := by
    intro A9 w9 r st
    have h := r.txn (show ((((σ4.put (σ.place (σ.made + 1)) (pack 1 0)).put (1 + s) (timeOf (σ.word 0) + 1)).setT s (txnOf (σ.made + 1) level (timeOf (σ.word 0) + 1))).event { kind := 1, t := σ.made + 1, n := timeOf (σ.word 0) + 1, op := ⟨0, 0, 0, level⟩ }).txns.getD s none = some (txnOf (σ.made + 1) level (timeOf (σ.word 0) + 1)) from ht8) 0 (v := .int .i64 ((σ.made : Int) + 1)) rfl
    rw [st.bt, e8t] at h
    exact h
  have HAA := Lib.hid (And.intro hA8 (And.intro gA (And.intro cl4 ht8)))
  clear hL hs hn hcn hmd htm hcnt htl hx g6 F6 M6 g67 F7 M7 g7 q1 q2 hmL hbL hle p4 tx4 cl4 tl4 ct4 hn6 hblk rA gA hA8 e8 e8t ht8 hw8 hev m5 z5
  refine wp_region_still_tail 12 (by kernel_rfl) (by kernel_rfl) ?_
  simp only [List.take_succ_cons, List.take_zero, List.drop_succ_cons, List.drop_zero]
  repeat still_step
  refine wpStill_nil ?_
  change wpList _ _ _ _ _ w8.drew
  have HG9 : Hid (∀ L, Grow L w8 L w8.drew) := fun L => Grow.drew _ _
  generalize w8.drew = wd8 at *
  go_wp2_with (go_at_call 48; refine HE.out.mono ?_; rintro e w9 ⟨rfl, A9, p1, p2, p3, p4, p5⟩; have t0 := H8.out A9 w9 p1 p3; have HP := Lib.hid (And.intro p1 (And.intro p2 p3)); clear p1 p2 p3 p4 p5)
  go_ret2
  obtain ⟨p1, p2, p3⟩ := HP.out
  obtain ⟨hA8, gA, cl4, ht8⟩ := HAA.out
  obtain ⟨hL, hs, hn, hcn, _⟩ := HL0.out
  have gg := (gA.trans (HG9.out _)).trans p2
  have hcl : ∀ q, ((((σ4.put (σ.place (σ.made + 1)) (pack 1 0)).put (1 + s) (timeOf (σ.word 0) + 1)).setT s (txnOf (σ.made + 1) level (timeOf (σ.word 0) + 1))).event { kind := 1, t := σ.made + 1, n := timeOf (σ.word 0) + 1, op := ⟨0, 0, 0, level⟩ }).calls.getD q none = σ.calls.getD q none := fun q => by show σ4.calls.getD q none = _; rw [cl4]
  rw [HS4.out.1.symm] at p1 ⊢
  refine ⟨A9, rfl, Live.of (s := s) hL p1 gg ⟨p3.be.trans (by rw [hA8]; rfl), p3.mp.trans (by rw [hA8]; rfl), p3.mt.trans (by rw [hA8]; funext k; show (if k = s then 0 else A.mt k) = A.mt k; by_cases hk : k = s; rw [if_pos hk, hL.mt k]; rw [if_neg hk]), fun q hq => by rw [p3.bt, hA8]; exact if_neg hq, fun q _ => by rw [p3.bc, hA8]; rfl, fun q hq => (p3.bx q hq).trans (by rw [hA8]; rfl), fun q hq => (p3.vpairs q hq).trans (by rw [hA8]; rfl), fun q _ => by rw [p3.vnext, hA8]; rfl, fun q _ => by rw [p3.vcall, hA8]; rfl⟩ (fun q hq => ?_) (fun c' hcc => ?_) (fun _ => ?_), gg, p3.be.trans (by rw [hA8]; rfl)⟩
  · rw [HS4.out.1]; exact hcl q
  · rw [HS4.out.1, hcl s, hcn] at hcc; cases hcc
  · rw [p3.vcall, hA8]; exact hL.idle s hs hcn
theorem begin_help {A : Book} {σ : St} {w : World} (hL : Live A σ w) (s : Nat) (hs : s < 8) (level : Nat) (hl1 : 1 ≤ level) (hl2 : level ≤ 3) (hn : σ.txns.getD s none = none) (hcn : σ.calls.getD s none = none) (hmd : σ.made < 2000) (hx : σ.word 0 < 18446744073709551616) (htm : timeOf (σ.word 0) < 281474976710000) (hlim : timeOf (σ.word 0) < σ.limit) (hlo : 0 < lastOf (σ.word 0) ∧ lastOf (σ.word 0) ≤ 2000) (hcnt : σ.count < 3000000000000000000) (htl : σ.tale.length < 1000000) :
    Calls Tryz.prog 35 #[.pointer (some ⟨A.be, 0, none⟩), .int .i64 (s : Int), .int .i64 (level : Int)] w (Begun A w (((((({ (σ.tick.help (σ.word 0)) with made := σ.made + 1 } : St).cas 0 (σ.word 0) (clockW (timeOf (σ.word 0) + 1) 0)).put (σ.place (σ.made + 1)) (pack 1 0)).put (1 + s) (timeOf (σ.word 0) + 1)).setT s (txnOf (σ.made + 1) level (timeOf (σ.word 0) + 1))).event { kind := 1, t := σ.made + 1, n := timeOf (σ.word 0) + 1, op := ⟨0, 0, 0, level⟩ }) (σ.made + 1)) := by
  have hR := hL.rep
  generalize hσ4 : ({ (σ.tick.help (σ.word 0)) with made := σ.made + 1 } : St).cas 0 (σ.word 0) (clockW (timeOf (σ.word 0) + 1) 0) = σ4
  have HS4 : Hid (({ (σ.tick.help (σ.word 0)) with made := σ.made + 1 } : St).cas 0 (σ.word 0) (clockW (timeOf (σ.word 0) + 1) 0) = σ4 ∧ σ4.place (σ.made + 1) = σ.place (σ.made + 1) ∧ σ4.txns = σ.txns ∧ σ4.calls = σ.calls ∧ σ4.tale = σ.tale ∧ σ4.count < 3000000000000000010) := by
    refine ⟨hσ4, ?_, ?_, ?_, ?_, ?_⟩ <;> rw [← hσ4]
    · rw [cas_place]; exact help_place σ.tick (σ.word 0) (σ.made + 1)
    · rw [cas_txns]; exact help_txns σ.tick (σ.word 0)
    · rw [cas_calls]; exact help_calls σ.tick (σ.word 0)
    · rw [cas_tale]; exact help_tale σ.tick (σ.word 0)
    · rw [cas_count]; show (σ.tick.help (σ.word 0)).count + 1 < _; rw [help_count]; show σ.count + 1 + 1 + 1 < _; omega
  clear hσ4
  have b1 : (s : Int) < 8 := by omega
  have b0 : (0 : Int) ≤ (s : Int) := by omega
  have hsok := Lib.hid (sessionOk s hs)
  have hlev := Lib.hid (levelOk level hl1 hl2)
  have e2 : w.cell? ⟨A.be, 2, none⟩ = some (.pointer (some ⟨A.ba, 0, none⟩)) := hR.eng 2 rfl
  have v5 := hR.eng (5 + s) (engCs_txn A σ hs)
  rw [show A.tp σ s = .pointer none by unfold Book.tp; rw [hn]] at v5
  have v21 : w.cell? ⟨A.be, 21, none⟩ = some (.int .i64 (σ.made : Int)) := hR.eng 21 rfl
  have d1 : decide ((2000 : Int) ≤ (σ.made : Int)) = false := by simp; omega
  have d2 : ((2000 : Int) ≤ (σ.made : Int)) = False := by simp; omega
  have d3 : (2000 ≤ σ.made) = False := by simp; omega
  have l1 : decide ((σ.limit : Int) ≤ (timeOf (σ.word 0) : Int)) = false := by simp; omega
  have l2 : ((σ.limit : Int) ≤ (timeOf (σ.word 0) : Int)) = False := by simp; omega
  have l3 : (σ.limit ≤ timeOf (σ.word 0)) = False := by simp; omega
  have k1 : decide ((0 : Int) < (lastOf (σ.word 0) : Int)) = true := by simp; omega
  have k2 : ((0 : Int) < (lastOf (σ.word 0) : Int)) = True := by simp; omega
  have k3 : (0 < lastOf (σ.word 0)) = True := by simp; omega
  have n1 : IntKind.i64.wrap ((σ.made : Int) + 1) = (σ.made : Int) + 1 := by rw [IntKind.wrap_i64]; omega
  have n2 : IntKind.u64.wrap ((timeOf (σ.word 0) : Int) + 1) = (timeOf (σ.word 0) : Int) + 1 := by rw [IntKind.wrap_u64]; omega
  have n3 : IntKind.i64.wrap (1 + (s : Int)) = 1 + (s : Int) := by rw [IntKind.wrap_i64]; omega
  have HLo := Lib.hid (load_i hR 0 0 rfl (by rw [hR.nw]; omega) (by omega))
  have HDr := Lib.hid (fun w' => drawn_any (σ.word 0) hx w')
  have H1 : Hid (∀ w1, Rep A σ.tick w1 → Grow A.L w A.L w1 → w1.cell? ⟨A.be, 1, none⟩ = some (.int .u64 (σ.limit : Int)) ∧ w1.cell? ⟨A.be, 21, none⟩ = some (.int .i64 (σ.made : Int)) ∧ w1.frozen? ⟨A.be, 21, none⟩ = false ∧ Calls Tryz.prog 67 #[.pointer (some ⟨A.be, 0, none⟩), .int .u64 (σ.word 0 : Int)] w1 (Did A w1 (σ.tick.help (σ.word 0)) (.tuple #[]))) :=
    fun w1 r g => ⟨r.eng 1 rfl, r.eng 21 rfl, r.engF 21, help_any r (σ.word 0) hx hlo.2 (by show σ.count + 1 < _; omega)⟩
  have H2 : Hid (∀ w1 w2, Rep A (σ.tick.help (σ.word 0)) w2 → Grow A.L w1 A.L w2 → w2.cell? ⟨A.be, 21, none⟩ = some (.int .i64 (σ.made : Int)) ∧ w2.frozen? ⟨A.be, 21, none⟩ = false) := fun w1 w2 r g => ⟨by
      have h := r.eng 21 (v := .int .i64 ((σ.tick.help (σ.word 0)).made : Int)) rfl
      rw [show (σ.tick.help (σ.word 0)).made = σ.made by unfold St.help St.cas; split <;> rfl] at h
      exact h, r.engF 21⟩
  have hmm : ∀ w, (Instr.makeMap 106 none).run Tryz.prog w = .ok (.map (some w.heap.size)) (w.alloc (.map #[] 0)) := fun w => rfl
  have HL0 := Lib.hid (And.intro hL (And.intro hs (And.intro hn (And.intro hcn (And.intro hmd (And.intro htm (And.intro hcnt (And.intro htl hx))))))))
  clear hL hs hl1 hl2 hn hcn hmd hx htm hlim hlo hcnt htl
  clear hR
  go_enter Tryz.func35, Tryz.ntmps35
  go_wp2_with (first | (go_at_call 43; refine (hsok.out _).mono ?_; rintro e w' ⟨rfl, rfl⟩) | (go_at_call 65; refine (hlev.out _).mono ?_; rintro e w' ⟨rfl, rfl⟩) | (go_at_call 66; refine HLo.out.mono ?_; rintro e w1 ⟨rfl, q1, q2⟩; obtain ⟨y1, y2, y3, hhelp⟩ := H1.out w1 q1 q2; have HH := Lib.hid hhelp; clear hhelp; have HQ1 := Lib.hid (And.intro q1 q2); clear q1 q2) | (go_at_call 55; refine (HDr.out _).mono ?_; rintro e w' ⟨rfl, rfl⟩) | (go_at_call 67; refine HH.out.mono ?_; rintro e w2 ⟨rfl, q1, q2⟩; obtain ⟨y4, y5⟩ := H2.out w1 w2 q1 q2; have HQ2 := Lib.hid (And.intro q1 q2); clear q1 q2))
  obtain ⟨hL, hs, hn, hcn, hmd, htm, hcnt, htl, hx⟩ := HL0.out
  obtain ⟨r1, g12⟩ := HQ2.out
  have g1 := HQ1.out.2.trans g12
  clear g12
  obtain ⟨rm, gm⟩ := r1.madeSet (σ.made + 1)
  rw [show ((σ.made + 1 : Nat) : Int) = (σ.made : Int) + 1 from rfl] at rm gm
  have hz3 : (w2.setCell ⟨A.be, 21, none⟩ (.int .i64 ((σ.made : Int) + 1))).heap.size = w2.heap.size := by simp [World.setCell]
  generalize hw3 : w2.setCell ⟨A.be, 21, none⟩ (.int .i64 ((σ.made : Int) + 1)) = w3 at *
  generalize hw4 : (w3.alloc (.map #[] 0)).alloc _ = w4
  have r4 : Rep A ({ (σ.tick.help (σ.word 0)) with made := σ.made + 1 } : St) w4 := by rw [← hw4]; exact (rm.alloc _).alloc _
  have g34 : Grow A.L w3 A.L w4 := by rw [← hw4]; exact (Grow.alloc _ _ _).trans (Grow.alloc _ _ _)
  have g4 : Grow A.L w A.L w4 := (g1.trans gm).trans g34
  have hm4 : w4.heap[w2.heap.size]? = some (.map #[] 0) := by rw [← hw4, ← hz3]; exact (Below.heap_alloc _ _ _ (by simp)).trans (heap_alloc_new w3 _)
  have hb4 : w4.heap[w2.heap.size + 1]? = some (.cells #[.int .i64 ((σ.made : Int) + 1), .int .i64 (level : Int), .int .i64 (s : Int), .int .u64 ((timeOf (σ.word 0) : Int) + 1), .int .u64 0, .int .i64 0, .slice none 0 0, .map (some w2.heap.size), .slice none 0 0, .slice none 0 0, .int .u32 0, .int .i32 0, .int .u32 0, .bool false] 121) := by rw [← hw4, ← hz3]; exact heap_alloc2_new w3 _ _
  have hmL : A.L w2.heap.size = none := by rw [← hz3]; exact rm.mem.fresh _ (Nat.le_refl _)
  have hbL : A.L (w2.heap.size + 1) = none := by rw [← hz3]; exact rm.mem.fresh _ (by omega)
  have hle : w.heap.size ≤ w2.heap.size := g1.size
  have F4 : Fix A.L w4 (w2.heap.size + 1) (.cells #[.int .i64 ((σ.made : Int) + 1), .int .i64 (level : Int), .int .i64 (s : Int), .int .u64 ((timeOf (σ.word 0) : Int) + 1), .int .u64 0, .int .i64 0, .slice none 0 0, .map (some w2.heap.size), .slice none 0 0, .slice none 0 0, .int .u32 0, .int .i32 0, .int .u32 0, .bool false] 121) := ⟨hbL, hb4⟩
  have M4 : Fix A.L w4 w2.heap.size (.map #[] 0) := ⟨hmL, hm4⟩
  have a2 := r4.eng 2 (v := .pointer (some ⟨A.ba, 0, none⟩)) rfl
  have a3 := F4.cell 3 (v := .int .u64 ((timeOf (σ.word 0) : Int) + 1)) rfl
  have hk : Calls Tryz.prog 69 #[.int .u64 ((timeOf (σ.word 0) : Int) + 1), .int .i64 0] w4.drew fun e w' => e = .returned (.int .u64 ((clockW (timeOf (σ.word 0) + 1) 0 : Nat) : Int)) ∧ w' = w4.drew := flip (clock_any (timeOf (σ.word 0) + 1) 0 (by omega) (by omega) w4.drew)
  have HC := Lib.hid hk
  have HCA := Lib.hid (cas_i r4.drew 0 (σ.word 0) (clockW (timeOf (σ.word 0) + 1) 0) 0 rfl (by rw [r4.nw]; omega) (by show (σ.tick.help (σ.word 0)).count < _; have := help_count σ.tick (σ.word 0); have e : σ.tick.count = σ.count + 1 := rfl; omega))
  have H4 := Lib.hid (And.intro g4 (And.intro F4 (And.intro M4 (And.intro hmL (And.intro hbL hle)))))
  clear hL hs hn hcn hmd htm hcnt htl hx r1 g1 rm gm hz3 hw3 hw4 r4 g34 g4 hm4 hb4 hmL hbL hle F4 M4 hk
  refine wp_region_still_tail 10 (by kernel_rfl) (by kernel_rfl) ?_
  simp only [List.take_succ_cons, List.take_zero, List.drop_succ_cons, List.drop_zero]
  repeat still_step
  still_call HC.out
  refine wpStill_nil ?_
  change wpList _ _ _ _ _ w4.drew
  have HG4 : Hid (Grow A.L w4 A.L w4.drew) := Grow.drew _ _
  generalize w4.drew = wd4 at *
  go_wp2_with (go_at_call 68; refine HCA.out.mono ?_; rintro e w5 ⟨rfl, q1, q2⟩)
  obtain ⟨g4, F4, M4, hmL, hbL, hle⟩ := H4.out
  obtain ⟨hL, hs, hn, hcn, hmd, htm, hcnt, htl, hx⟩ := HL0.out
  rw [HS4.out.1] at q1
  obtain ⟨-, p4, tx4, cl4, tl4, ct4⟩ := HS4.out
  have g45 := HG4.out.trans q2
  have F5 := F4.grow g45
  have M5 := M4.grow g45
  have g5 := g4.trans g45
  have a2 := q1.eng 2 (v := .pointer (some ⟨A.ba, 0, none⟩)) rfl
  have a0 := F5.cell 0 (v := .int .i64 ((σ.made : Int) + 1)) rfl
  have hpl : Calls Tryz.prog 71 #[.pointer (some ⟨A.be, 0, none⟩), .int .i64 ((σ.made : Int) + 1)] w5.drew fun e w' => e = .returned (.int .i64 ((σ.place (σ.made + 1) : Nat) : Int)) ∧ w' = w5.drew := by
    have h := place_still q1.drew (σ.made + 1) (by omega)
    rw [p4] at h
    exact h
  have HPL := Lib.hid hpl
  have HPK := Lib.hid (pack_still 1 0 1 0 rfl rfl (by omega) (by omega) w5.drew)
  have HST := Lib.hid (store_any q1.drew (σ.place (σ.made + 1)) (pack 1 0) (by rw [q1.nw]; have := q1.sl; have := congrArg (fun x => x) p4; unfold St.place at p4 ⊢; omega) (by omega))
  have H5 := Lib.hid (And.intro g5 (And.intro F5 (And.intro M5 q1)))
  clear hL hs hn hcn hmd htm hcnt htl hx g4 F4 M4 hmL hbL hle g45 F5 M5 g5 q1 q2 hpl p4 tx4 cl4 tl4 ct4
  refine wp_region_still_tail 11 (by kernel_rfl) (by kernel_rfl) ?_
  simp only [List.take_succ_cons, List.take_zero, List.drop_succ_cons, List.drop_zero]
  repeat still_step
  still_call HPL.out
  still_call HPK.out
  refine wpStill_nil ?_
  change wpList _ _ _ _ _ w5.drew
  have HG6 : Hid (Grow A.L w5 A.L w5.drew) := Grow.drew _ _
  generalize w5.drew = wd5 at *
  go_wp2_with (go_at_call 70; refine HST.out.mono ?_; rintro e w6 ⟨rfl, q1, q2⟩)
  obtain ⟨g5, F5, M5, _⟩ := H5.out
  obtain ⟨hL, hs, hn, hcn, hmd, htm, hcnt, htl, hx⟩ := HL0.out
  have ct4 := HS4.out.2.2.2.2.2
  have g56 := HG6.out.trans q2
  have F6 := F5.grow g56
  have M6 := M5.grow g56
  have g6 := g5.trans g56
  have a2 := q1.eng 2 (v := .pointer (some ⟨A.ba, 0, none⟩)) rfl
  have a3 := F6.cell 3 (v := .int .u64 ((timeOf (σ.word 0) : Int) + 1)) rfl
  have HSU := Lib.hid (store_i q1.drew (1 + s) (timeOf (σ.word 0) + 1) (1 + (s : Int)) ((timeOf (σ.word 0) : Int) + 1) (by omega) (by omega) (by rw [q1.nw]; omega) (by show σ4.count + 1 < _; omega))
  have H6 := Lib.hid (And.intro g6 (And.intro F6 M6))
  have HV5 : Hid (∀ w7, Rep A ((σ4.put (σ.place (σ.made + 1)) (pack 1 0)).put (1 + s) (timeOf (σ.word 0) + 1)) w7 → w7.cell? ⟨A.be, 5 + s, none⟩ = some (.pointer none) ∧ w7.frozen? ⟨A.be, 5 + s, none⟩ = false) := by
    intro w7 r
    have h := r.eng (5 + s) (engCs_txn A _ hs)
    rw [show A.tp ((σ4.put (σ.place (σ.made + 1)) (pack 1 0)).put (1 + s) (timeOf (σ.word 0) + 1)) s = .pointer none by unfold Book.tp; rw [show ((σ4.put (σ.place (σ.made + 1)) (pack 1 0)).put (1 + s) (timeOf (σ.word 0) + 1)).txns.getD s none = none by show σ4.txns.getD s none = none; rw [HS4.out.2.2.1]; exact hn]] at h
    exact ⟨h, r.engF _⟩
  clear hL hs hn hcn hmd htm hcnt htl hx g5 F5 M5 g56 F6 M6 g6 q1 q2 ct4
  refine wp_region_still_tail 10 (by kernel_rfl) (by kernel_rfl) ?_
  simp only [List.take_succ_cons, List.take_zero, List.drop_succ_cons, List.drop_zero]
  repeat still_step
  refine wpStill_nil ?_
  change wpList _ _ _ _ _ w6.drew
  have HG7 : Hid (Grow A.L w6 A.L w6.drew) := Grow.drew _ _
  generalize w6.drew = wd6 at *
  go_wp2_with (go_at_call 70; refine HSU.out.mono ?_; rintro e w7 ⟨rfl, q1, q2⟩; obtain ⟨m5, z5⟩ := HV5.out w7 q1; have H7 := Lib.hid (And.intro q1 q2); clear q1 q2)
  obtain ⟨g6, F6, M6⟩ := H6.out
  obtain ⟨q1, q2⟩ := H7.out
  obtain ⟨_, _, _, hmL, hbL, hle⟩ := H4.out
  obtain ⟨hL, hs, hn, hcn, hmd, htm, hcnt, htl, hx⟩ := HL0.out
  obtain ⟨-, p4, tx4, cl4, tl4, ct4⟩ := HS4.out
  have g67 := HG7.out.trans q2
  have F7 := F6.grow g67
  have M7 := M6.grow g67
  have g7 := g6.trans g67
  have hn6 : ((σ4.put (σ.place (σ.made + 1)) (pack 1 0)).put (1 + s) (timeOf (σ.word 0) + 1)).txns.getD s none = none := by show σ4.txns.getD s none = none; rw [tx4]; exact hn
  have hblk : w7.heap[w2.heap.size + 1]? = some (.cells (txnCs (A.newTxn s (w2.heap.size + 1) w2.heap.size) s (txnOf (σ.made + 1) level (timeOf (σ.word 0) + 1))).toArray 121) := by
    rw [show (txnCs (A.newTxn s (w2.heap.size + 1) w2.heap.size) s (txnOf (σ.made + 1) level (timeOf (σ.word 0) + 1))).toArray = #[.int .i64 ((σ.made : Int) + 1), .int .i64 (level : Int), .int .i64 (s : Int), .int .u64 ((timeOf (σ.word 0) : Int) + 1), .int .u64 0, .int .i64 0, .slice none 0 0, .map (some w2.heap.size), .slice none 0 0, .slice none 0 0, .int .u32 0, .int .i32 0, .int .u32 0, .bool false] by simp [txnCs, Book.newTxn, upF, onceCs, txnOf]]
    exact F7.2
  obtain ⟨rA, gA⟩ := q1.adoptTxn g7 F7.1 M7.1 hs (by omega) hle (by omega) (txnOf (σ.made + 1) level (timeOf (σ.word 0) + 1)) rfl rfl rfl rfl hblk M7.2 hn6
  obtain ⟨A8, hA8⟩ : ∃ A8 : Book, A8 = A.newTxn s (w2.heap.size + 1) w2.heap.size := ⟨_, rfl⟩
  rw [← hA8] at rA gA
  have e8 : A8.be = A.be := by rw [hA8]; rfl
  have e8t : A8.bt s = w2.heap.size + 1 := by rw [hA8]; exact if_pos rfl
  have ht8 : (((σ4.put (σ.place (σ.made + 1)) (pack 1 0)).put (1 + s) (timeOf (σ.word 0) + 1)).setT s (txnOf (σ.made + 1) level (timeOf (σ.word 0) + 1))).txns.getD s none = some (txnOf (σ.made + 1) level (timeOf (σ.word 0) + 1)) := by rw [getT_set (by show s < σ4.txns.length; rw [tx4, hL.rep.n8]; exact hs), if_pos rfl]
  generalize hw8 : World.setCell w7 _ _ = w8 at *
  have c0 := rA.txn ht8 0 (v := .int .i64 ((σ.made : Int) + 1)) rfl
  have c3 := rA.txn ht8 3 (v := .int .u64 ((timeOf (σ.word 0) : Int) + 1)) rfl
  rw [e8t] at c0 c3
  have hev := event_any rA.drew s { kind := 1, t := σ.made + 1, n := timeOf (σ.word 0) + 1, op := ⟨0, 0, 0, level⟩ } 1 ((σ.made : Int) + 1) ((timeOf (σ.word 0) : Int) + 1) 0 0 0 level 0 0 0 0 none 0 0 rfl (PRow.nil _ _) (by show σ4.tale.length < _; rw [tl4]; exact htl)
  rw [e8] at hev
  have HE := Lib.hid hev
  have H8 : Hid (∀ A9 w9, Rep A9 ((((σ4.put (σ.place (σ.made + 1)) (pack 1 0)).put (1 + s) (timeOf (σ.word 0) + 1)).setT s (txnOf (σ.made + 1) level (timeOf (σ.word 0) + 1))).event { kind := 1, t := σ.made + 1, n := timeOf (σ.word 0) + 1, op := ⟨0, 0, 0, level⟩ }) w9 → Stay A8 A9 s → w9.cell? ⟨w2.heap.size + 1, 0, none⟩ = some (.int .i64 ((σ.made : Int) + 1))) := by
    intro A9 w9 r st
    have h := r.txn (show ((((σ4.put (σ.place (σ.made + 1)) (pack 1 0)).put (1 + s) (timeOf (σ.word 0) + 1)).setT s (txnOf (σ.made + 1) level (timeOf (σ.word 0) + 1))).event { kind := 1, t := σ.made + 1, n := timeOf (σ.word 0) + 1, op := ⟨0, 0, 0, level⟩ }).txns.getD s none = some (txnOf (σ.made + 1) level (timeOf (σ.word 0) + 1)) from ht8) 0 (v := .int .i64 ((σ.made : Int) + 1)) rfl
    rw [st.bt, e8t] at h
    exact h
  have HAA := Lib.hid (And.intro hA8 (And.intro gA (And.intro cl4 ht8)))
  clear hL hs hn hcn hmd htm hcnt htl hx g6 F6 M6 g67 F7 M7 g7 q1 q2 hmL hbL hle p4 tx4 cl4 tl4 ct4 hn6 hblk rA gA hA8 e8 e8t ht8 hw8 hev m5 z5
  refine wp_region_still_tail 12 (by kernel_rfl) (by kernel_rfl) ?_
  simp only [List.take_succ_cons, List.take_zero, List.drop_succ_cons, List.drop_zero]
  repeat still_step
  refine wpStill_nil ?_
  change wpList _ _ _ _ _ w8.drew
  have HG9 : Hid (∀ L, Grow L w8 L w8.drew) := fun L => Grow.drew _ _
  generalize w8.drew = wd8 at *
  go_wp2_with (go_at_call 48; refine HE.out.mono ?_; rintro e w9 ⟨rfl, A9, p1, p2, p3, p4, p5⟩; have t0 := H8.out A9 w9 p1 p3; have HP := Lib.hid (And.intro p1 (And.intro p2 p3)); clear p1 p2 p3 p4 p5)
  go_ret2
  obtain ⟨p1, p2, p3⟩ := HP.out
  obtain ⟨hA8, gA, cl4, ht8⟩ := HAA.out
  obtain ⟨hL, hs, hn, hcn, _⟩ := HL0.out
  have gg := (gA.trans (HG9.out _)).trans p2
  have hcl : ∀ q, ((((σ4.put (σ.place (σ.made + 1)) (pack 1 0)).put (1 + s) (timeOf (σ.word 0) + 1)).setT s (txnOf (σ.made + 1) level (timeOf (σ.word 0) + 1))).event { kind := 1, t := σ.made + 1, n := timeOf (σ.word 0) + 1, op := ⟨0, 0, 0, level⟩ }).calls.getD q none = σ.calls.getD q none := fun q => by show σ4.calls.getD q none = _; rw [cl4]
  rw [HS4.out.1.symm] at p1 ⊢
  refine ⟨A9, rfl, Live.of (s := s) hL p1 gg ⟨p3.be.trans (by rw [hA8]; rfl), p3.mp.trans (by rw [hA8]; rfl), p3.mt.trans (by rw [hA8]; funext k; show (if k = s then 0 else A.mt k) = A.mt k; by_cases hk : k = s; rw [if_pos hk, hL.mt k]; rw [if_neg hk]), fun q hq => by rw [p3.bt, hA8]; exact if_neg hq, fun q _ => by rw [p3.bc, hA8]; rfl, fun q hq => (p3.bx q hq).trans (by rw [hA8]; rfl), fun q hq => (p3.vpairs q hq).trans (by rw [hA8]; rfl), fun q _ => by rw [p3.vnext, hA8]; rfl, fun q _ => by rw [p3.vcall, hA8]; rfl⟩ (fun q hq => ?_) (fun c' hcc => ?_) (fun _ => ?_), gg, p3.be.trans (by rw [hA8]; rfl)⟩
  · rw [HS4.out.1]; exact hcl q
  · rw [HS4.out.1, hcl s, hcn] at hcc; cases hcc
  · rw [p3.vcall, hA8]; exact hL.idle s hs hcn
end Go.Proofs.YtdgombgcjeelpaaGreat.Em

namespace Go.Proofs.YtdgombgcjeelpaaGreat.Em
open Go.ChangeShapes Go.WideShapes Go.ChangeAt Go.RowKit En
set_option linter.unusedVariables false
set_option linter.unusedSimpArgs false
set_option maxRecDepth 100000
set_option maxHeartbeats 1600000

def okFirst (σ : St) (s : Nat) : Bool := match (σ.c s).op.kind with
  | 6 => true
  | 7 => true
  | 1 => match (σ.t s).cell (σ.c s).op.key with | none => true | some x => !x.there || vl σ x.own
  | 5 => decide ((σ.c s).op.key ≤ 63) && decide ((σ.c s).op.hi ≤ 63) && okCels σ (σ.t s) && decide ((σ.c s).r.pairs.length < 90000)
  | 2 => okWrite σ s
  | 3 => okWrite σ s
  | 4 => okWrite σ s
  | _ => false
where okWrite (σ : St) (s : Nat) : Bool := match (σ.t s).cell (σ.c s).op.key with | none => true | some _ => decide (1 ≤ (σ.t s).id) && decide ((σ.t s).id ≤ 65535) && okPool σ
theorem firstTo {σ : St} {s : Nat} {t : Txn} (ht : σ.txns.getD s none = some t) {c : Cal} (hc : σ.calls.getD s none = some c) (h : okFirst σ s = true) : FirstTo σ s := by
  intro A w hR hmp
  have et := txn_get ht
  have ec := call_get hc
  unfold okFirst okFirst.okWrite at h
  rw [et, ec] at h
  have hret : ∀ r, ∀ e w', Tells A w s r e w' → ∃ v, e = .returned v := fun r e w' ⟨_, v, hv, _⟩ => ⟨v, hv⟩
  refine first_tells hR s c hc _ (fun hk => ?_) (fun hk => ?_) (fun hk => ?_) (fun hk => ?_) (fun k1 k5 k6 k7 => ?_) (hret _)
  · rw [hk] at h
    simp only at h
    cases hx : t.cell c.op.key with
    | none =>
      have e : σ.first s = (σ, .start ⟨c.op.key, t.begin_, .get⟩) := by unfold St.first; rw [ec, et]; simp only [hk, hx]
      rw [e]; exact get_none hR s t ht c hc hx
    | some x =>
      rw [hx] at h
      have e : σ.first s = (σ, if x.there then .fin { value := σ.valueOf x.own } else .fin { e := 11 }) := by unfold St.first; rw [ec, et]; simp only [hk, hx]
      rw [e]
      cases hth : x.there with
      | true =>
        simp only [hth, Bool.not_true, Bool.false_or] at h
        rw [if_pos rfl]
        exact get_there hR s t ht c hc x hx hth (vl_iff h)
      | false =>
        rw [if_neg (by decide)]
        exact get_gone hR s t ht c hc x hx hth
  · rw [hk] at h
    simp only [Bool.and_eq_true, decide_eq_true_eq] at h
    obtain ⟨⟨⟨h1, h2⟩, h3⟩, h4⟩ := h
    have e : σ.first s = σ.scan s c.op.key := by unfold St.first; rw [ec]; simp only [hk]
    rw [e]
    exact scan_any hR s t ht c hc c.op.key (by omega) h2 (okCels_iff h3) (by omega)
  · have e : σ.first s = (σ, .draw) := by unfold St.first; rw [ec]; simp only [hk]
    rw [e]; exact draw_any hR s
  · have e : σ.first s = (σ, .abort 0 1) := by unfold St.first; rw [ec]; simp only [hk]
    rw [e]; exact abort_any hR s 0 1
  · have hx : (match t.cell c.op.key with | none => true | some _ => decide (1 ≤ t.id) && decide (t.id ≤ 65535) && okPool σ) = true ∧ (c.op.kind = 2 ∨ c.op.kind = 3 ∨ c.op.kind = 4) := by
      split at h
      · omega
      · omega
      · omega
      · omega
      · rename_i hk; exact ⟨h, .inl hk⟩
      · rename_i hk; exact ⟨h, .inr (.inl hk)⟩
      · rename_i hk; exact ⟨h, .inr (.inr hk)⟩
      · cases h
    obtain ⟨hx1, hkk⟩ := hx
    cases hx : t.cell c.op.key with
    | none =>
      have e : σ.first s = (σ, .start ⟨c.op.key, t.begin_, .change⟩) := by
        rcases hkk with hk | hk | hk <;> (unfold St.first; rw [ec, et]; simp only [hk, hx])
      rw [e]
      exact change_none hR s t ht c hc hx
    | some x =>
      rw [hx] at hx1
      simp only [Bool.and_eq_true, decide_eq_true_eq] at hx1
      have e : σ.first s = againK σ s t x c.op.kind := by
        rcases hkk with hk | hk | hk <;> (unfold St.first againK; rw [ec, et]; simp only [hk, hx])
      rw [e]
      exact change_some hR s t ht c hc hmp x hx hx1.1.1 hx1.1.2 (okPool_iff hR.nt hx1.2)
def okOthers (σ σ2 : St) (s : Nat) : Bool := decide (σ.calls.length = 8) && decide (σ2.calls.length = 8) && (List.range 8).all fun q => q == s || decide (σ2.calls.getD q none = σ.calls.getD q none)
theorem okOthers_iff {σ σ2 : St} {s : Nat} (h : okOthers σ σ2 s = true) : ∀ q, q ≠ s → σ2.calls.getD q none = σ.calls.getD q none := by
  intro q hq
  unfold okOthers at h
  simp only [Bool.and_eq_true, decide_eq_true_eq, List.all_eq_true, List.mem_range, Bool.or_eq_true, beq_iff_eq] at h
  by_cases h8 : q < 8
  · exact (h.2 q h8).resolve_left hq
  · simp [List.getD_eq_getElem?_getD, List.getElem?_eq_none (show σ2.calls.length ≤ q by omega), List.getElem?_eq_none (show σ.calls.length ≤ q by omega)]
/-- What is behind a step's closure. -/
def afterStep (σ : St) (s : Nat) (σ2 : St) (ok : Option K) (c2 : Cal) : Option (St × Nat × Res) :=
  match ok with
  | some k' => if c2.over = false then some ({ σ2.setC s { c2 with k := some k' } with looks := σ2.looks + (σ2.count - σ.count) }, if c2.waits then 2 else 1, {}) else none
  | none =>
    if c2.waits = false ∧ c2.over = true ∧ c2.r.pairs = [] then
      if c2.r.over = 0 then
        match σ2.txns.getD s none with
        | some t2 => if σ2.tale.length < 1000000 then some (({ σ2.setC s { c2 with k := none } with looks := σ2.looks + (σ2.count - σ.count), calls := (σ2.setC s { c2 with k := none }).calls.set s none } : St).event { kind := 2, t := t2.id, op := c2.op, res := c2.r }, 3, c2.r) else none
        | none => none
      else some ({ σ2.setC s { c2 with k := none } with looks := σ2.looks + (σ2.count - σ.count), calls := (σ2.setC s { c2 with k := none }).calls.set s none, txns := σ2.txns.set s none }, 3, c2.r)
    else none
/-- One step, if all it asks holds. -/
def oneStep (σ : St) (s : Nat) : Option (St × Nat × Res) :=
  match σ.txns.getD s none, σ.calls.getD s none with
  | some t, some c =>
    match c.k with
    | some k =>
      match (σ.setC s { c with waits := false }).run s k with
      | (σ2, ok) =>
        match σ2.calls.getD s none with
        | some c2 =>
          if okK (σ.setC s { c with waits := false }) s k = true ∧ okOthers σ σ2 s = true ∧ σ.count ≤ σ2.count ∧ σ2.count - σ.count < 1000000 ∧ σ2.looks < 1000000000000000000 ∧ σ.count < 3000000000000000000 then afterStep σ s σ2 ok c2 else none
        | none => none
    | none => none
  | _, _ => none
theorem step_calls {A : Book} {σ : St} {w : World} (hL : Live A σ w) {s : Nat} (hs : s < 8) {σ' : St} {kd : Nat} {r : Res} (h : oneStep σ s = some (σ', kd, r)) :
    Calls Tryz.prog 19 #[.pointer (some ⟨A.be, 0, none⟩), .int .i64 (s : Int)] w (Stepped A w σ' (kd : Int) r) := by
  unfold oneStep at h
  split at h
  · rename_i t c ht hc
    split at h
    · rename_i k hk
      split at h
      rename_i σ2 ok hrun
      split at h
      · rename_i c2 hc2
        split at h
        · rename_i hh
          obtain ⟨h1, h2, h3, h4, h5, h6⟩ := hh
          have hc1 : (σ.setC s { c with waits := false }).calls.getD s none = some { c with waits := false } := by rw [getC_set (lt_of_call hc), if_pos rfl]
          have hRT := runsTo hs (σ := σ.setC s { c with waits := false }) (t := t) ht hc1 k h1
          have hdl : σ2.count = σ.count + (σ2.count - σ.count) := by omega
          have hcq := okOthers_iff h2
          unfold afterStep at h
          cases ok with
          | some k' =>
            simp only at h
            split at h
            · rename_i hov
              simp only [Option.some.injEq, Prod.mk.injEq] at h
              obtain ⟨rfl, rfl, rfl⟩ := h
              have := step_go hL s hs t ht c hc k hk h6 σ2 _ hrun hRT c2 hc2 _ hdl h4 h5 hcq k' rfl hov
              cases hw : c2.waits <;> (rw [hw] at this; simpa [hw] using this)
            · cases h
          | none =>
            simp only at h
            split at h
            · rename_i hh
              obtain ⟨hw, hov, hpr⟩ := hh
              split at h
              · rename_i hro
                split at h
                · rename_i t2 ht2
                  split at h
                  · rename_i htl
                    simp only [Option.some.injEq, Prod.mk.injEq] at h
                    obtain ⟨rfl, rfl, rfl⟩ := h
                    exact step_more hL s hs t ht c hc k hk h6 σ2 _ hrun hRT c2 hc2 _ hdl h4 h5 hcq t2 ht2 htl rfl hw hov hpr hro
                  · cases h
                · cases h
              · rename_i hro
                simp only [Option.some.injEq, Prod.mk.injEq] at h
                obtain ⟨rfl, rfl, rfl⟩ := h
                exact step_over hL s hs t ht c hc k hk h6 σ2 _ hrun hRT c2 hc2 _ hdl h4 h5 hcq rfl hw hov hpr hro
            · cases h
        · cases h
      · cases h
    · cases h
  · cases h
end Go.Proofs.YtdgombgcjeelpaaGreat.Em

namespace Go.Proofs.YtdgombgcjeelpaaGreat.Em
open Go.ChangeShapes Go.WideShapes Go.ChangeAt Go.RowKit En
set_option linter.unusedVariables false
set_option linter.unusedSimpArgs false
set_option maxRecDepth 100000
set_option maxHeartbeats 1600000

def capTo (n : Int) : Int := min (max n 0) 1000
def boundOf (n c : Int) : Int := wrap64 (wrap64 (400 * (capTo n + 1) * (capTo c + 64)) * (capTo n + 4))
theorem capTo_low {n : Int} (h : n < 0) : capTo n = 0 := by unfold capTo; omega
theorem capTo_mid {n : Int} (h : 0 ≤ n) (h2 : (if n < 0 then 0 else n) ≤ 1000) : capTo n = n := by rw [if_neg (by omega)] at h2; unfold capTo; omega
theorem capTo_high {n : Int} (h : 0 ≤ n) (h2 : 1000 < (if n < 0 then 0 else n)) : capTo n = 1000 := by rw [if_neg (by omega)] at h2; unfold capTo; omega
theorem bound_any (n c : Int) (w : World) : Calls Tryz.prog 21 #[.int .i64 n, .int .i64 c] w fun e w' => e = .returned (.int .i64 (boundOf n c)) ∧ w = w' := by
  go_enter Tryz.func21, Tryz.ntmps21
  go_wp2
  all_goals (go_ret; refine ⟨?_, rfl⟩; unfold boundOf; first | (rw [capTo_low (n := n) (by assumption)]) | (rw [capTo_mid (n := n) (by assumption) (by assumption)]) | (rw [capTo_high (n := n) (by assumption) (by assumption)]))
  all_goals (first | (rw [capTo_low (n := c) (by assumption)]; rfl) | (rw [capTo_mid (n := c) (by assumption) (by assumption)]; rfl) | (rw [capTo_high (n := c) (by assumption) (by assumption)]; rfl))
theorem bound_run (w : World) : Calls Tryz.prog 21 #[.int .i64 8, .int .i64 256] w fun e w' => e = .returned (.int .i64 13824000) ∧ w = w' := by
  have h := bound_any 8 256 w
  rw [show boundOf 8 256 = 13824000 by decide +kernel] at h
  exact h
end Go.Proofs.YtdgombgcjeelpaaGreat.Em
