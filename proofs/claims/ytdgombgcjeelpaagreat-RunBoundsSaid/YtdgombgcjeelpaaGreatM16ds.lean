/- Texts of this claim, laid together: Nx, Aw. -/
import Derived.Test.YtdgombgcjeelpaaGreatM15ds
namespace Go.Proofs.YtdgombgcjeelpaaGreat.Em
open Go.ChangeShapes Go.WideShapes Go.ChangeAt Go.RowKit En
set_option linter.unusedVariables false
set_option linter.unusedSimpArgs false
set_option maxRecDepth 100000
set_option maxHeartbeats 1600000

/-- The book of a new engine. -/
def book0 (be ba bw bp bs bv : Nat) : Book where
  L := fun k => if k = be then some .eng else if k = ba then some .arena else if k = bw then some .words else if k = bp then some .pool else if k = bs then some .tags else if k = bv then some .values else none
  be := be
  ba := ba
  bw := bw
  bp := bp
  bs := bs
  bv := bv
  bt := fun _ => 0
  bm := fun _ => 0
  bc := fun _ => 0
  bx := fun _ _ => 0
  vfree := .slice none 0 0
  vtale := .slice none 0 0
  vcut := .slice none 0 0
  vsweep := .nilFunc
  vkeys := fun _ => .slice none 0 0
  vreads := fun _ => .slice none 0 0
  vbonds := fun _ => .slice none 0 0
  vpairs := fun _ => .slice none 0 0
  vnext := fun _ => .nilFunc
  vcall := fun _ => .pointer none
  taleCs := []
  cutCs := []
  mp := 0
  mt := fun _ => 0
  vover := fun _ => false
theorem getD_rep {α : Type} (n s : Nat) (d : α) : (List.replicate n d).getD s d = d := by
  rw [List.getD_eq_getElem?_getD, List.getElem?_replicate]
  split <;> rfl
theorem rep_new {w : World} {n l be ba bw bp bs bv : Nat} (hn : 1 ≤ n ∧ n ≤ 256)
    (d : be ≠ ba ∧ be ≠ bw ∧ be ≠ bp ∧ be ≠ bs ∧ be ≠ bv ∧ ba ≠ bw ∧ ba ≠ bp ∧ ba ≠ bs ∧ ba ≠ bv ∧ bw ≠ bp ∧ bw ≠ bs ∧ bw ≠ bv ∧ bp ≠ bs ∧ bp ≠ bv ∧ bs ≠ bv)
    (h1 : w.heap[be]? = some (.cells #[.int .i64 (n : Int), .int .u64 (l : Int), .pointer (some ⟨ba, 0, none⟩), .pointer (some ⟨bp, 0, none⟩), .slice (some ⟨bv, 0, none⟩) n n, .pointer none, .pointer none, .pointer none, .pointer none, .pointer none, .pointer none, .pointer none, .pointer none, .pointer none, .pointer none, .pointer none, .pointer none, .pointer none, .pointer none, .pointer none, .pointer none, .int .i64 0, .int .i64 0, .int .i64 0, .slice none 0 0, .nilFunc, .int .u64 0, .slice none 0 0, .bool false] 104))
    (h2 : w.heap[ba]? = some (.cells #[.slice (some ⟨bw, 0, none⟩) (73 + n * 3 + 2000 + 1) (73 + n * 3 + 2000 + 1), .int .i64 0] 168))
    (h3 : w.heap[bw]? = some (.cells (madeCells #[.int .u64 0] (73 + n * 3 + 2000 + 1)) 175))
    (h4 : w.heap[bp]? = some (.cells #[.slice (some ⟨bs, 0, none⟩) n n, .int .i64 65535, .slice none 0 0, .int .i64 0, .int .u32 0, .int .i32 0, .int .u32 0] 172))
    (h5 : w.heap[bs]? = some (.cells (madeCells #[.int .i64 0, .bool false] (n * 2)) 240))
    (h6 : w.heap[bv]? = some (.cells (madeCells #[.int .i64 0, .int .i64 0] (n * 2)) 143)) : Live (book0 be ba bw bp bs bv) (new n l) w := by
  obtain ⟨d1, d2, d3, d4, d5, d6, d7, d8, d9, d10, d11, d12, d13, d14, d15⟩ := d
  have hto : ∀ (a : Array Value) (l : List Value), a.toList = l → a = l.toArray := fun a l h => by rw [← h]
  have e3 := hto _ _ (toList_madeCells_one (.int .u64 0) (73 + n * 3 + 2000 + 1))
  have e5 := hto _ _ (toList_madeCells_two (.int .i64 0) (.bool false) n)
  have e6 := hto _ _ (toList_madeCells_two (.int .i64 0) (.int .i64 0) n)
  rw [e3] at h3
  rw [e5] at h5
  rw [e6] at h6
  have htx : ∀ s, (new n l).txns.getD s none = none := fun s => getD_rep 8 s none
  have hcl : ∀ s, (new n l).calls.getD s none = none := fun s => getD_rep 8 s none
  have hm : Holds (book0 be ba bw bp bs bv).L w (memOf (book0 be ba bw bp bs bv) (new n l)) := by
    refine ⟨fun r => ?_, fun b hb => ?_⟩
    · cases r
      case eng => exact ⟨by simp [book0], h1⟩
      case arena => exact ⟨by simp [book0, Ne.symm d1], by simpa [memOf, arenaCs, new, book0, i64] using h2⟩
      case words => exact ⟨by simp [book0, Ne.symm d2, Ne.symm d6], by simpa [memOf, new, book0, u64] using h3⟩
      case pool => exact ⟨by simp [book0, Ne.symm d3, Ne.symm d7, Ne.symm d10], by simpa [memOf, poolCs, onceCs, new, book0, i64] using h4⟩
      case tags => exact ⟨by simp [book0, Ne.symm d4, Ne.symm d8, Ne.symm d11, Ne.symm d13], by simpa [memOf, tagCs, new, book0, i64] using h5⟩
      case values => exact ⟨by simp [book0, Ne.symm d5, Ne.symm d9, Ne.symm d12, Ne.symm d14, Ne.symm d15], by simpa [memOf, valueCs, new, book0, i64] using h6⟩
      case free => exact ⟨World.ownsRow_nil _ 0 _ _, fun g hg => by cases hg⟩
      case tale => exact ⟨World.ownsRow_nil _ 0 _ _, fun g hg => by cases hg⟩
      case cut => trivial
      case tmp => trivial
      case txn s => simp only [memOf, htx]; trivial
      case map s => simp only [memOf, htx]; trivial
      case cell s key => simp only [memOf, htx]; trivial
      case keys s => simp only [memOf, htx]; trivial
      case reads s => simp only [memOf, htx]; trivial
      case bonds s => simp only [memOf, htx]; trivial
      case call s => simp only [memOf, hcl]; trivial
      case pairs s => simp only [memOf, hcl]; trivial
    · have l1 := lt_of h1
      have l2 := lt_of h2
      have l3 := lt_of h3
      have l4 := lt_of h4
      have l5 := lt_of h5
      have l6 := lt_of h6
      show (if b = be then some Role.eng else _) = none
      rw [if_neg (by omega), if_neg (by omega), if_neg (by omega), if_neg (by omega), if_neg (by omega), if_neg (by omega)]
  refine ⟨⟨hm, rfl, hn, by simp [new], by simp [new], by simp [new], by simp [new], by simp [new]⟩, rfl, fun _ => rfl, fun s _ c hc => absurd ((hcl s).symm.trans hc) (by simp), fun s _ _ => rfl⟩
theorem engineNew (n l : Nat) (h1 : 1 ≤ n) (h2 : n ≤ 256) (h3 : 1 ≤ l) (h4 : l ≤ 1099511627776) (w : World) : Calls Tryz.prog 23 #[.agg #[.int .i64 (n : Int), .int .u64 (l : Int)]] w fun e w' => ∃ A, e = .returned (.tuple #[.pointer (some ⟨A.be, 0, none⟩), .int .i64 0]) ∧ Live A (new n l) w' ∧ Grow (fun _ => none) w A.L w' := by
  have hco := Lib.hid (confOk n l h1 h2 h3 h4)
  have han := Lib.hid (fun w => arenaNew (73 + n * 3 + 2000 + 1) (by omega) (by omega) w)
  have hpn := Lib.hid (fun w => poolNew n h1 (by omega) w)
  have hmv := fun w => make_values n (by omega) w
  have ea : ((73 + n * 3 + 2000 + 1 : Nat) : Int) = 73 + (n : Int) * 3 + 2000 + 1 := by omega
  rw [ea] at han
  have n1 : IntKind.i64.wrap ((n : Int) * 3) = (n : Int) * 3 := by rw [IntKind.wrap_i64]; omega
  have n2 : IntKind.i64.wrap (73 + (n : Int) * 3) = 73 + (n : Int) * 3 := by rw [IntKind.wrap_i64]; omega
  have n3 : IntKind.i64.wrap (73 + (n : Int) * 3 + 2000) = 73 + (n : Int) * 3 + 2000 := by rw [IntKind.wrap_i64]; omega
  have n4 : IntKind.i64.wrap (73 + (n : Int) * 3 + 2000 + 1) = 73 + (n : Int) * 3 + 2000 + 1 := by rw [IntKind.wrap_i64]; omega
  have HN := Lib.hid (And.intro h1 h2)
  have x0 : (w.alloc (.cells #[.int .i64 (n : Int), .int .u64 (l : Int)] 53)).cell? ⟨w.heap.size, 0, none⟩ = some (.int .i64 (n : Int)) := by rw [cell_of_row _ _ 0 _ _ _ (heap_alloc_new w _)]; rfl
  have x1 : (w.alloc (.cells #[.int .i64 (n : Int), .int .u64 (l : Int)] 53)).cell? ⟨w.heap.size, 1, none⟩ = some (.int .u64 (l : Int)) := by rw [cell_of_row _ _ 1 _ _ _ (heap_alloc_new w _)]; rfl
  have HC : Hid (∀ w1, Below (w.alloc (.cells #[.int .i64 (n : Int), .int .u64 (l : Int)] 53)).heap.size (w.alloc (.cells #[.int .i64 (n : Int), .int .u64 (l : Int)] 53)) w1 → w1.cell? ⟨w.heap.size, 0, none⟩ = some (.int .i64 (n : Int)) ∧ w1.cell? ⟨w.heap.size, 1, none⟩ = some (.int .u64 (l : Int)) ∧ w.heap.size < w1.heap.size) := by
    intro w1 hb
    have hs := size_alloc1 w (.cells #[.int .i64 (n : Int), .int .u64 (l : Int)] 53)
    have hz := hb.size
    exact ⟨(hb.cell (p := ⟨w.heap.size, 0, none⟩) (by rw [hs]; exact Nat.lt_succ_self _)).trans x0, (hb.cell (p := ⟨w.heap.size, 1, none⟩) (by rw [hs]; exact Nat.lt_succ_self _)).trans x1, by omega⟩
  have HB2 : Hid (∀ (w1 w2 : World) (a b : Obj), w2 = (w1.alloc a).alloc b → w.heap.size < w1.heap.size → w1.cell? ⟨w.heap.size, 0, none⟩ = some (.int .i64 (n : Int)) → w1.cell? ⟨w.heap.size, 1, none⟩ = some (.int .u64 (l : Int)) → w2.cell? ⟨w.heap.size, 0, none⟩ = some (.int .i64 (n : Int)) ∧ w2.cell? ⟨w.heap.size, 1, none⟩ = some (.int .u64 (l : Int)) ∧ w.heap.size < w2.heap.size) := by
    rintro w1 w2 a b rfl hl k0 k1
    have hb : Below w1.heap.size w1 ((w1.alloc a).alloc b) := ((Below.refl _ _).alloc (Nat.le_refl _) _).alloc (by simp) _
    exact ⟨(hb.cell (p := ⟨w.heap.size, 0, none⟩) hl).trans k0, (hb.cell (p := ⟨w.heap.size, 1, none⟩) hl).trans k1, Nat.lt_of_lt_of_le hl hb.size⟩
  clear h1 h2 h3 h4 ea
  go_enter Tryz.func23, Tryz.ntmps23
  go_wp2_with (first | (go_at_call 52; refine (hco.out _).mono ?_; rintro e w1 ⟨rfl, hb⟩; obtain ⟨y0, y1, hsz⟩ := HC.out w1 hb; have HB := Lib.hid (And.intro hb hsz); clear hb hsz) | (go_at_call 53; refine (han.out _).mono ?_; rintro e w2 ⟨rfl, hw2⟩; obtain ⟨z0, z1, hl2⟩ := HB2.out w1 w2 _ _ hw2 HB.out.2 y0 y1; have H2 := Lib.hid (And.intro hw2 hl2); clear hw2 hl2) | (go_at_call 54; refine (hpn.out _).mono ?_; rintro e w3 ⟨rfl, hw3⟩; obtain ⟨u0, u1, hl3⟩ := HB2.out w2 w3 _ _ hw3 H2.out.2 z0 z1; have H3 := Lib.hid (And.intro hw3 hl3); clear hw3 hl3))
  have v0 : (w3.alloc (.cells (madeCells #[.int .i64 0, .int .i64 0] (n * 2)) 143)).cell? ⟨w.heap.size, 0, none⟩ = some (.int .i64 (n : Int)) := by rw [World.cell?_alloc_past _ _ _ H3.out.2]; exact u0
  have v1 : (w3.alloc (.cells (madeCells #[.int .i64 0, .int .i64 0] (n * 2)) 143)).cell? ⟨w.heap.size, 1, none⟩ = some (.int .u64 (l : Int)) := by rw [World.cell?_alloc_past _ _ _ H3.out.2]; exact u1
  go_region
  go_wp2_with fail
  go_ret2
  obtain ⟨hw2, _⟩ := H2.out
  obtain ⟨hw3, _⟩ := H3.out
  obtain ⟨hb1, hl1⟩ := HB.out
  have two_old : ∀ (w : World) (a b : Obj), ((w.alloc a).alloc b).heap[w.heap.size]? = some a := fun w a b => (Below.heap_alloc _ _ _ (by simp)).trans (heap_alloc_new w a)
  have s2 : w2.heap.size = w1.heap.size + 2 := by rw [hw2]; simp
  have s3 : w3.heap.size = w2.heap.size + 2 := by rw [hw3]; simp
  have bel : ∀ (w : World) (a b : Obj), Below w.heap.size w ((w.alloc a).alloc b) := fun w a b => ((Below.refl _ _).alloc (Nat.le_refl _) _).alloc (by simp) _
  have f2a := two_old w1 (.cells (madeCells #[.int .u64 0] (73 + n * 3 + 2000 + 1)) 175) (.cells #[.slice (some ⟨w1.heap.size, 0, none⟩) (73 + n * 3 + 2000 + 1) (73 + n * 3 + 2000 + 1), .int .i64 0] 168)
  have f2b := heap_alloc2_new w1 (.cells (madeCells #[.int .u64 0] (73 + n * 3 + 2000 + 1)) 175) (.cells #[.slice (some ⟨w1.heap.size, 0, none⟩) (73 + n * 3 + 2000 + 1) (73 + n * 3 + 2000 + 1), .int .i64 0] 168)
  rw [← hw2] at f2a f2b
  have f3a := two_old w2 (.cells (madeCells #[.int .i64 0, .bool false] (n * 2)) 240) (.cells #[.slice (some ⟨w2.heap.size, 0, none⟩) n n, .int .i64 65535, .slice none 0 0, .int .i64 0, .int .u32 0, .int .i32 0, .int .u32 0] 172)
  have f3b := heap_alloc2_new w2 (.cells (madeCells #[.int .i64 0, .bool false] (n * 2)) 240) (.cells #[.slice (some ⟨w2.heap.size, 0, none⟩) n n, .int .i64 65535, .slice none 0 0, .int .i64 0, .int .u32 0, .int .i32 0, .int .u32 0] 172)
  rw [← hw3] at f3a f3b
  have b12 : Below w1.heap.size w1 w2 := by rw [hw2]; exact bel _ _ _
  have b23 : Below w2.heap.size w2 w3 := by rw [hw3]; exact bel _ _ _
  have b34 := (bel w3 (.cells (madeCells #[.int .i64 0, .int .i64 0] (n * 2)) 143) (.cells #[.int .i64 (n : Int), .int .u64 (l : Int), .pointer (some ⟨w1.heap.size + 1, 0, none⟩), .pointer (some ⟨w2.heap.size + 1, 0, none⟩), .slice (some ⟨w3.heap.size, 0, none⟩) n n, .pointer none, .pointer none, .pointer none, .pointer none, .pointer none, .pointer none, .pointer none, .pointer none, .pointer none, .pointer none, .pointer none, .pointer none, .pointer none, .pointer none, .pointer none, .pointer none, .int .i64 0, .int .i64 0, .int .i64 0, .slice none 0 0, .nilFunc, .int .u64 0, .slice none 0 0, .bool false] 104)).drew
  have b0w : Below w.heap.size w w1 := ((Below.refl _ _).alloc (Nat.le_refl _) _).trans (hb1.mono (by simp))
  have f4a := two_old w3 (.cells (madeCells #[.int .i64 0, .int .i64 0] (n * 2)) 143) (.cells #[.int .i64 (n : Int), .int .u64 (l : Int), .pointer (some ⟨w1.heap.size + 1, 0, none⟩), .pointer (some ⟨w2.heap.size + 1, 0, none⟩), .slice (some ⟨w3.heap.size, 0, none⟩) n n, .pointer none, .pointer none, .pointer none, .pointer none, .pointer none, .pointer none, .pointer none, .pointer none, .pointer none, .pointer none, .pointer none, .pointer none, .pointer none, .pointer none, .pointer none, .pointer none, .int .i64 0, .int .i64 0, .int .i64 0, .slice none 0 0, .nilFunc, .int .u64 0, .slice none 0 0, .bool false] 104)
  have f4b := heap_alloc2_new w3 (.cells (madeCells #[.int .i64 0, .int .i64 0] (n * 2)) 143) (.cells #[.int .i64 (n : Int), .int .u64 (l : Int), .pointer (some ⟨w1.heap.size + 1, 0, none⟩), .pointer (some ⟨w2.heap.size + 1, 0, none⟩), .slice (some ⟨w3.heap.size, 0, none⟩) n n, .pointer none, .pointer none, .pointer none, .pointer none, .pointer none, .pointer none, .pointer none, .pointer none, .pointer none, .pointer none, .pointer none, .pointer none, .pointer none, .pointer none, .pointer none, .pointer none, .int .i64 0, .int .i64 0, .int .i64 0, .slice none 0 0, .nilFunc, .int .u64 0, .slice none 0 0, .bool false] 104)
  refine ⟨book0 (w3.heap.size + 1) (w1.heap.size + 1) w1.heap.size (w2.heap.size + 1) w2.heap.size w3.heap.size, rfl, ?_, ?_⟩
  · refine rep_new HN.out (by omega) f4b ?_ ?_ ?_ ?_ f4a
    · exact (b34.block _ (by omega)).trans ((b23.block _ (by omega)).trans f2b)
    · exact (b34.block _ (by omega)).trans ((b23.block _ (by omega)).trans f2a)
    · exact (b34.block _ (by omega)).trans f3b
    · exact (b34.block _ (by omega)).trans f3a
  · have hall := ((b0w.trans (b12.mono (by omega))).trans (b23.mono (by omega))).trans (b34.mono (by omega))
    refine ⟨hall.os, hall.tape, hall.output, hall.size, fun b hb _ => hall.block b hb, fun b hb => ?_, fun b hb e => by cases e⟩
    show (if b = w3.heap.size + 1 then some Role.eng else _) = none
    rw [if_neg (by omega), if_neg (by omega), if_neg (by omega), if_neg (by omega), if_neg (by omega), if_neg (by omega)]
end Go.Proofs.YtdgombgcjeelpaaGreat.Em

namespace Go.Proofs.YtdgombgcjeelpaaGreat.Em
open Go.ChangeShapes Go.WideShapes Go.ChangeAt Go.RowKit En
set_option linter.unusedVariables false
set_option linter.unusedSimpArgs false
set_option maxRecDepth 100000
set_option maxHeartbeats 1600000

theorem Grow.toBelow {L' : Lab} {w w' : World} (g : Grow (fun _ => none) w L' w') : Below w.heap.size w w' := ⟨g.os, g.tape, g.output, g.size, fun b hb => g.block b hb rfl⟩
/-- A whole run, told: each result's error, number and end. -/
def toldOf (x : Option (St × List Res × Nat)) : Option (List (Nat × Nat × Nat) × Nat) := x.map fun y => (y.2.1.map fun r => (r.e, r.value, r.over), y.2.2)
theorem awakeRun : toldOf (runWhole 1000 (new 8 100) 0 3 [⟨2, 5, 0, 7⟩]) = some ([(0, 0, 0), (0, 0, 3)], 0) := by decide +kernel
theorem told_some {x : Option (St × List Res × Nat)} {l : List (Nat × Nat × Nat)} {e : Nat} (h : toldOf x = some (l, e)) : ∃ σ' rs, x = some (σ', rs, e) ∧ rs.map (fun r => (r.e, r.value, r.over)) = l := by
  cases x with
  | none => cases h
  | some y => obtain ⟨σ', rs, e'⟩ := y; simp only [toldOf, Option.map_some, Option.some.injEq, Prod.mk.injEq] at h; exact ⟨σ', rs, by rw [h.2], h.1⟩
theorem frow_block {L : Lab} {w : World} {b n size : Nat} {xs : List Value} {T : TypeId} (h : Fix L w b (.cells xs.toArray T)) (hl : xs.length = n * size) (hn : n ≤ 1000000) : FRow L w size (.slice (some ⟨b, 0, none⟩) n n) xs := by
  refine ⟨_, n, n, rfl, hl, Nat.le_refl _, by unfold maxLen; omega, .inr ⟨b, 0, rfl, h.1, lt_of h.2, fun j hj => ?_⟩⟩
  rw [Nat.zero_add]
  have hj' : j < xs.length := by omega
  rw [List.getElem?_eq_getElem hj']
  exact h.cell j (by simp [hj'])
theorem two_told {L : Lab} {w : World} {vo : Value} {cs : List Value} {rs : List Res} {a0 a1 a2 b0 b1 b2 : Nat} (h1 : TRow L w 5 vo cs) (h2 : ResRow L w rs cs) (h3 : rs.map (fun r => (r.e, r.value, r.over)) = [(a0, a1, a2), (b0, b1, b2)]) :
    ∃ b off cap, vo = .slice (some ⟨b, off, none⟩) 2 cap ∧ w.cell? ⟨b, off, none⟩ = some (.int .i64 (a0 : Int)) ∧ w.cell? ⟨b, off + 5 + 3, none⟩ = some (.int .i64 (b2 : Int)) := by
  match rs, h2, h3 with
  | [r0, r1], h2, h3 =>
    simp only [List.map_cons, List.map_nil, List.cons.injEq, Prod.mk.injEq, and_true] at h3
    obtain ⟨⟨rfl, rfl, rfl⟩, rfl, rfl, rfl⟩ := h3
    obtain ⟨v0, c0, rfl, _, v1, c1, rfl, _, rfl⟩ := h2
    obtain ⟨⟨a, n, cap, rfl, hl, _, _, h5⟩, _⟩ := h1
    have hn : n = 2 := by simp at hl; omega
    subst hn
    rcases h5 with h5 | ⟨b, off, rfl, _, _, hc⟩
    · omega
    · refine ⟨b, off, cap, rfl, ?_, ?_⟩
      · exact hc 0 (by omega)
      · exact hc 8 (by omega)
theorem awake24 (w : World) : Calls Tryz.prog 22 #[] w fun e w' => e = .returned (.bool true) ∧ Below w.heap.size w w' := by
  have hN := engineNew 8 100 (by omega) (by omega) (by omega) (by omega) w
  rw [show ((8 : Nat) : Int) = 8 from rfl, show ((100 : Nat) : Int) = 100 from rfl] at hN
  have HN := Lib.hid hN
  obtain ⟨σ', rs, hrun, hrs⟩ := told_some awakeRun
  have hW : ∀ A w1, Live A (new 8 100) w1 → Calls Tryz.prog 36 #[.pointer (some ⟨A.be, 0, none⟩), .int .i64 0, .int .i64 3, .slice (some ⟨w1.heap.size, 0, none⟩) 1 1] (w1.alloc (.cells #[.int .i64 2, .int .i64 5, .int .i64 0, .int .i64 7] 31)) (Wholed A (w1.alloc (.cells #[.int .i64 2, .int .i64 5, .int .i64 0, .int .i64 7] 31)) σ' rs 0) := fun A w1 hL =>
    whole_any (hL.alloc _) 0 (by omega) 3 [⟨2, 5, 0, 7⟩] _ 1 1 (frow_block (xs := [.int .i64 2, .int .i64 5, .int .i64 0, .int .i64 7]) (fix_next hL.rep.mem.fresh _ rfl) rfl (by omega)) (by omega) 1000 (by omega) σ' rs 0 hrun
  have HW := Lib.hid hW
  have HB : Hid (∀ w, Calls Tryz.prog 21 #[.int .i64 1, .int .i64 2] w fun e w' => e = .returned (.int .i64 264000) ∧ w = w') := by
    intro w
    have h := bound_any 1 2 w
    rw [show boundOf 1 2 = 264000 by decide +kernel] at h
    exact h
  clear hN hW hrun
  go_enter Tryz.func22, Tryz.ntmps22
  go_wp2_with (first | (go_at_call 23; refine HN.out.mono ?_; rintro e w1 ⟨A, rfl, q1, q2⟩; have HW1 := Lib.hid (HW.out A w1 q1); have H1 := Lib.hid (And.intro q1 q2); clear q1 q2) | (go_at_call 36; refine HW1.out.mono ?_; rintro e w2 ⟨A2, vo, cs, rfl, p1, p2, p3, p4, p5⟩; obtain ⟨rb, ro, rc, rfl, x0, x3⟩ := two_told p1 p2 hrs; have H2 := Lib.hid p4; clear p1 p2 p3 p4 p5) | (go_at_call 21; refine (HB.out _).mono ?_; rintro e w' ⟨rfl, rfl⟩))
  go_ret
  exact ⟨rfl, ((H1.out.2.trans (Grow.alloc _ _ _)).trans H2.out).toBelow⟩
theorem capTo_range (n : Int) : 0 ≤ capTo n ∧ capTo n ≤ 1000 := by unfold capTo; omega
theorem bounds_law (n c : Int) (w : World) : Calls Tryz.prog 4 #[.int .i64 n, .int .i64 c] w fun e w' => e = .returned (.bool true) ∧ Below w.heap.size w w' := by
  have HA := Lib.hid awake24
  go_enter Tryz.func4, Tryz.ntmps4
  go_wp2_with (first | (go_at_call 21; refine (bound_any n c _).mono ?_; rintro e w' ⟨rfl, rfl⟩; unfold boundOf; (first | (rw [capTo_low (n := n) (by assumption)]) | (rw [capTo_mid (n := n) (by assumption) (by assumption)]) | (rw [capTo_high (n := n) (by assumption) (by assumption)])); (first | (rw [capTo_low (n := c) (by assumption)]) | (rw [capTo_mid (n := c) (by assumption) (by assumption)]) | (rw [capTo_high (n := c) (by assumption) (by assumption)]) | (rw [show capTo c = 0 by unfold capTo; omega]) | (rw [show capTo c = c by unfold capTo; omega]) | (rw [show capTo c = 1000 by unfold capTo; omega])); (try rw [show wrap64 (wrap64 (400 * (0 + 1) * (0 + 64)) * (0 + 4)) = 102400 by decide +kernel]); (try rw [show wrap64 (wrap64 (400 * (0 + 1) * (1000 + 64)) * (0 + 4)) = 1702400 by decide +kernel]); (try rw [show wrap64 (wrap64 (400 * (0 + 1) * (c + 64)) * (0 + 4)) = 400 * (c + 64) * 4 by unfold wrap64; omega]); (try rw [show wrap64 (wrap64 (400 * (1000 + 1) * (0 + 64)) * (1000 + 4)) = 25728102400 by decide +kernel]); (try rw [show wrap64 (wrap64 (400 * (1000 + 1) * (1000 + 64)) * (1000 + 4)) = 427729702400 by decide +kernel]); (try rw [show wrap64 (wrap64 (400 * (1000 + 1) * (c + 64)) * (1000 + 4)) = 400400 * (c + 64) * 1004 by unfold wrap64; omega]); (try rw [show wrap64 (400 * (n + 1) * (0 + 64)) = 400 * (n + 1) * 64 by (have e := capTo_mid (n := n) (by assumption) (by assumption); have hr := capTo_range n; unfold wrap64; omega)]); (try rw [show wrap64 (400 * (n + 1) * (1000 + 64)) = 400 * (n + 1) * 1064 by (have e := capTo_mid (n := n) (by assumption) (by assumption); have hr := capTo_range n; unfold wrap64; omega)])) | (go_at_call 22; refine (HA.out _).mono ?_; rintro e w1 ⟨rfl, q1⟩))
  all_goals (go_ret; exact ⟨rfl, q1⟩)
end Go.Proofs.YtdgombgcjeelpaaGreat.Em
