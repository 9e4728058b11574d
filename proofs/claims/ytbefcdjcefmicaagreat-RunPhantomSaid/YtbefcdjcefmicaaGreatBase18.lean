/- Texts of this claim, laid together: Nw, Nx, Aw, Rd, Us, Sta, Stb, Stc. -/
import Derived.Test.YtbefcdjcefmicaaGreatBase7
import Derived.Laws.MakeOwn
import Derived.Laws.OwnMore
import Derived.Test.YtbefcdjcefmicaaGreatBase17
import Derived.Test.YtbefcdjcefmicaaGreatBase4
import Derived.Test.YtbefcdjcefmicaaGreatBase5
namespace Go.Proofs.YtbefcdjcefmicaaGreat.Em
open Go.ChangeShapes Go.WideShapes Go.ChangeAt Go.RowKit En
set_option linter.unusedVariables false
set_option linter.unusedSimpArgs false
set_option maxRecDepth 100000
set_option maxHeartbeats 1600000

theorem toList_madeCells_two (a b : Value) (n : Nat) : (madeCells #[a, b] (n * 2)).toList = two (List.replicate n (a, b)) := by
  apply List.ext_getElem?
  intro i
  have e1 : (madeCells #[a, b] (n * 2)).toList[i]? = if i < n * 2 then some (#[a, b][i % 2]!) else none := by
    by_cases h : i < n * 2
    · rw [if_pos h]; simp [madeCells, h]
    · rw [if_neg h, List.getElem?_eq_none_iff]; simp [madeCells]; omega
  rw [e1]
  by_cases h : i < n * 2
  · rw [if_pos h]
    have hr : (List.replicate n (a, b))[i / 2]? = some (a, b) := by rw [List.getElem?_replicate, if_pos (by omega)]
    obtain ⟨h0, h1⟩ := two_get (List.replicate n (a, b)) (i / 2) hr
    rcases Nat.mod_two_eq_zero_or_one i with hm | hm
    · rw [show 2 * (i / 2) = i by omega] at h0
      rw [h0, hm]; rfl
    · rw [show 2 * (i / 2) + 1 = i by omega] at h1
      rw [h1, hm]; rfl
  · rw [if_neg h]
    symm
    rw [List.getElem?_eq_none_iff, two_length]
    simp
    omega
theorem infoU : (Tryz.prog.info? 186).map (fun i => (i.zero, i.size, i.bytes)) = some (some (.agg #[.int .u64 0]), 1, 8) := by kernel_rfl
theorem infoV : (Tryz.prog.info? 153).map (fun i => (i.zero, i.size, i.bytes)) = some (some (.agg #[.int .i64 0, .int .i64 0]), 2, 16) := by kernel_rfl
theorem infoG : (Tryz.prog.info? 249).map (fun i => (i.zero, i.size, i.bytes)) = some (some (.agg #[.int .i64 0, .bool false]), 2, 16) := by kernel_rfl
theorem make_words (n : Nat) (h : n ≤ 100000) (w : World) : (Instr.makeSlice 172 (.int .i64 (n : Int)) (.int .i64 (n : Int))).run Tryz.prog w = .ok (.slice (some ⟨w.heap.size, 0, none⟩) n n) (w.alloc (.cells (madeCells #[.int .u64 0] n) 186)) := by
  obtain ⟨i, hi, hz0, hz1, hz2⟩ := info_parts infoU
  have := run_make (P := Tryz.prog) w 172 186 i _ Tryz.underlying172 hi hz0 .i64 .i64 n n (by omega) (Int.le_refl _) (by rw [hz2]; omega) (by omega)
  rw [hz1] at this
  simpa [Value.cells] using this
theorem make_tags (n : Nat) (h : n ≤ 100000) (w : World) : (Instr.makeSlice 181 (.int .i64 (n : Int)) (.int .i64 (n : Int))).run Tryz.prog w = .ok (.slice (some ⟨w.heap.size, 0, none⟩) n n) (w.alloc (.cells (madeCells #[.int .i64 0, .bool false] (n * 2)) 249)) := by
  obtain ⟨i, hi, hz0, hz1, hz2⟩ := info_parts infoG
  have := run_make (P := Tryz.prog) w 181 249 i _ Tryz.underlying181 hi hz0 .i64 .i64 n n (by omega) (Int.le_refl _) (by rw [hz2]; omega) (by omega)
  rw [hz1] at this
  simpa [Value.cells] using this
theorem make_values (n : Nat) (h : n ≤ 100000) (w : World) : (Instr.makeSlice 105 (.int .i64 (n : Int)) (.int .i64 (n : Int))).run Tryz.prog w = .ok (.slice (some ⟨w.heap.size, 0, none⟩) n n) (w.alloc (.cells (madeCells #[.int .i64 0, .int .i64 0] (n * 2)) 153)) := by
  obtain ⟨i, hi, hz0, hz1, hz2⟩ := info_parts infoV
  have := run_make (P := Tryz.prog) w 105 153 i _ Tryz.underlying105 hi hz0 .i64 .i64 n n (by omega) (Int.le_refl _) (by rw [hz2]; omega) (by omega)
  rw [hz1] at this
  simpa [Value.cells] using this
theorem arenaNew (n : Nat) (h1 : 1 ≤ n) (h2 : n ≤ 100000) (w : World) : Calls Tryz.prog 57 #[.int .i64 (n : Int)] w fun e w' => e = .returned (.tuple #[.pointer (some ⟨w.heap.size + 1, 0, none⟩), .int .i64 0]) ∧ w' = (w.alloc (.cells (madeCells #[.int .u64 0] n) 186)).alloc (.cells #[.slice (some ⟨w.heap.size, 0, none⟩) n n, .int .i64 0] 177) := by
  have hm := fun w => make_words n h2 w
  have d1 : decide ((n : Int) < 1) = false := by simp; omega
  have d2 : ((n : Int) < 1) = False := by simp; omega
  have d3 : decide ((100000 : Int) < (n : Int)) = false := by simp; omega
  have d4 : ((100000 : Int) < (n : Int)) = False := by simp; omega
  have d5 : (n < 1) = False := by simp; omega
  have d6 : (100000 < n) = False := by simp; omega
  have d7 : (n = 0) = False := by simp; omega
  clear h1 h2
  go_enter Tryz.func57, Tryz.ntmps57
  go_wp2
  go_ret2
  exact ⟨rfl, rfl⟩
theorem poolNew (n : Nat) (h1 : 1 ≤ n) (h2 : n ≤ 4096) (w : World) : Calls Tryz.prog 58 #[.int .i64 (n : Int), .int .i64 65535] w fun e w' => e = .returned (.tuple #[.pointer (some ⟨w.heap.size + 1, 0, none⟩), .int .i64 0]) ∧ w' = (w.alloc (.cells (madeCells #[.int .i64 0, .bool false] (n * 2)) 249)).alloc (.cells #[.slice (some ⟨w.heap.size, 0, none⟩) n n, .int .i64 65535, .slice none 0 0, .int .i64 0, .int .u32 0, .int .i32 0, .int .u32 0] 183) := by
  have hm := fun w => make_tags n (by omega) w
  have d1 : decide ((n : Int) < 1) = false := by simp; omega
  have d2 : ((n : Int) < 1) = False := by simp; omega
  have d3 : decide ((4096 : Int) < (n : Int)) = false := by simp; omega
  have d4 : ((4096 : Int) < (n : Int)) = False := by simp; omega
  have d5 : (n < 1) = False := by simp; omega
  have d6 : (4096 < n) = False := by simp; omega
  have d7 : (n = 0) = False := by simp; omega
  clear h1 h2
  go_enter Tryz.func58, Tryz.ntmps58
  go_wp2
  go_ret2
  exact ⟨rfl, rfl⟩
theorem confOk (n l : Nat) (h1 : 1 ≤ n) (h2 : n ≤ 256) (h3 : 1 ≤ l) (h4 : l ≤ 1099511627776) (w : World) : Calls Tryz.prog 56 #[.agg #[.int .i64 (n : Int), .int .u64 (l : Int)]] w fun e w' => e = .returned (.bool true) ∧ Below w.heap.size w w' := by
  have hb : Below w.heap.size w (w.alloc (.cells #[.int .i64 (n : Int), .int .u64 (l : Int)] 62)) := (Below.refl _ _).alloc (Nat.le_refl _) _
  have HB := Lib.hid hb
  have d1 : decide ((1 : Int) ≤ (n : Int)) = true := by simp; omega
  have d2 : decide ((n : Int) ≤ 256) = true := by simp; omega
  have d3 : decide ((1 : Int) ≤ (l : Int)) = true := by simp; omega
  have d4 : decide ((l : Int) ≤ 1099511627776) = true := by simp; omega
  have e1 : ((1 : Int) ≤ (n : Int)) = True := by simp; omega
  have e2 : ((n : Int) ≤ 256) = True := by simp; omega
  have e3 : ((1 : Int) ≤ (l : Int)) = True := by simp; omega
  have e4 : ((l : Int) ≤ 1099511627776) = True := by simp; omega
  have g1 : (1 ≤ n) = True := by simp; omega
  have g2 : (n ≤ 256) = True := by simp; omega
  have g3 : (1 ≤ l) = True := by simp; omega
  have g5 : (0 < n) = True := by simp; omega
  have g6 : (0 < l) = True := by simp; omega
  clear h1 h2 h3 h4 hb
  go_enter Tryz.func56, Tryz.ntmps56
  go_wp2
  go_ret
  exact ⟨rfl, HB.out⟩
end Go.Proofs.YtbefcdjcefmicaaGreat.Em

namespace Go.Proofs.YtbefcdjcefmicaaGreat.Em
open Go.ChangeShapes Go.WideShapes Go.ChangeAt Go.RowKit En
set_option linter.unusedVariables false
set_option linter.unusedSimpArgs false
set_option maxRecDepth 100000
set_option maxHeartbeats 1600000

/-- The book of a new engine. -/
def book0 (be ba bw bp bs bv : Nat) : Book where
  L := fun k => if k = be then some .eng else if k = ba then some .arena else if k = bw then some .words else if k = bp then some .pool else if k = bs then some .tags else if k = bv then some .values else none
  be := be
  ba := ba
  bw := bw
  bp := bp
  bs := bs
  bv := bv
  bt := fun _ => 0
  bm := fun _ => 0
  bc := fun _ => 0
  bx := fun _ _ => 0
  vfree := .slice none 0 0
  vtale := .slice none 0 0
  vcut := ((none, 0), .slice none 0 0)
  vsweep := .nilFunc
  vkeys := fun _ => .slice none 0 0
  vreads := fun _ => .slice none 0 0
  vbonds := fun _ => .slice none 0 0
  vpairs := fun _ => .slice none 0 0
  vnext := fun _ => .nilFunc
  vcall := fun _ => .pointer none
  taleCs := []
  cutCs := []
  mp := 0
  mt := fun _ => 0
  vover := fun _ => false
theorem getD_rep {α : Type} (n s : Nat) (d : α) : (List.replicate n d).getD s d = d := by
  rw [List.getD_eq_getElem?_getD, List.getElem?_replicate]
  split <;> rfl
theorem rep_new {w : World} {n l be ba bw bp bs bv : Nat} (hn : 1 ≤ n ∧ n ≤ 256)
    (d : be ≠ ba ∧ be ≠ bw ∧ be ≠ bp ∧ be ≠ bs ∧ be ≠ bv ∧ ba ≠ bw ∧ ba ≠ bp ∧ ba ≠ bs ∧ ba ≠ bv ∧ bw ≠ bp ∧ bw ≠ bs ∧ bw ≠ bv ∧ bp ≠ bs ∧ bp ≠ bv ∧ bs ≠ bv)
    (h1 : w.heap[be]? = some (.cells #[.int .i64 (n : Int), .int .u64 (l : Int), .pointer (some ⟨ba, 0, none⟩), .pointer (some ⟨bp, 0, none⟩), .slice (some ⟨bv, 0, none⟩) n n, .pointer none, .pointer none, .pointer none, .pointer none, .pointer none, .pointer none, .pointer none, .pointer none, .pointer none, .pointer none, .pointer none, .pointer none, .pointer none, .pointer none, .pointer none, .pointer none, .int .i64 0, .int .i64 0, .int .i64 0, .slice none 0 0, .nilFunc, .int .u64 0, .slice none 0 0, .bool false] 113))
    (h2 : w.heap[ba]? = some (.cells #[.slice (some ⟨bw, 0, none⟩) (73 + n * 3 + 2000 + 1) (73 + n * 3 + 2000 + 1), .int .i64 0] 177))
    (h3 : w.heap[bw]? = some (.cells (madeCells #[.int .u64 0] (73 + n * 3 + 2000 + 1)) 186))
    (h4 : w.heap[bp]? = some (.cells #[.slice (some ⟨bs, 0, none⟩) n n, .int .i64 65535, .slice none 0 0, .int .i64 0, .int .u32 0, .int .i32 0, .int .u32 0] 183))
    (h5 : w.heap[bs]? = some (.cells (madeCells #[.int .i64 0, .bool false] (n * 2)) 249))
    (h6 : w.heap[bv]? = some (.cells (madeCells #[.int .i64 0, .int .i64 0] (n * 2)) 153)) : Live (book0 be ba bw bp bs bv) (new n l) w := by
  obtain ⟨d1, d2, d3, d4, d5, d6, d7, d8, d9, d10, d11, d12, d13, d14, d15⟩ := d
  have hto : ∀ (a : Array Value) (l : List Value), a.toList = l → a = l.toArray := fun a l h => by rw [← h]
  have e3 := hto _ _ (toList_madeCells_one (.int .u64 0) (73 + n * 3 + 2000 + 1))
  have e5 := hto _ _ (toList_madeCells_two (.int .i64 0) (.bool false) n)
  have e6 := hto _ _ (toList_madeCells_two (.int .i64 0) (.int .i64 0) n)
  rw [e3] at h3
  rw [e5] at h5
  rw [e6] at h6
  have htx : ∀ s, (new n l).txns.getD s none = none := fun s => getD_rep 8 s none
  have hcl : ∀ s, (new n l).calls.getD s none = none := fun s => getD_rep 8 s none
  have hm : Holds (book0 be ba bw bp bs bv).L w (memOf (book0 be ba bw bp bs bv) (new n l)) := by
    refine ⟨fun r => ?_, fun b hb => ?_⟩
    · cases r
      case eng => exact ⟨by simp [book0], h1⟩
      case arena => exact ⟨by simp [book0, Ne.symm d1], by simpa [memOf, arenaCs, new, book0, i64] using h2⟩
      case words => exact ⟨by simp [book0, Ne.symm d2, Ne.symm d6], by simpa [memOf, new, book0, u64] using h3⟩
      case pool => exact ⟨by simp [book0, Ne.symm d3, Ne.symm d7, Ne.symm d10], by simpa [memOf, poolCs, onceCs, new, book0, i64] using h4⟩
      case tags => exact ⟨by simp [book0, Ne.symm d4, Ne.symm d8, Ne.symm d11, Ne.symm d13], by simpa [memOf, tagCs, new, book0, i64] using h5⟩
      case values => exact ⟨by simp [book0, Ne.symm d5, Ne.symm d9, Ne.symm d12, Ne.symm d14, Ne.symm d15], by simpa [memOf, valueCs, new, book0, i64] using h6⟩
      case free => exact ⟨World.ownsRow_nil _ 0 _ _, fun g hg => by cases hg⟩
      case tale => exact ⟨World.ownsRow_nil _ 0 _ _, fun g hg => by cases hg⟩
      case cut => trivial
      case tmp => trivial
      case txn s => simp only [memOf, htx]; trivial
      case map s => simp only [memOf, htx]; trivial
      case cell s key => simp only [memOf, htx]; trivial
      case keys s => simp only [memOf, htx]; trivial
      case reads s => simp only [memOf, htx]; trivial
      case bonds s => simp only [memOf, htx]; trivial
      case call s => simp only [memOf, hcl]; trivial
      case pairs s => simp only [memOf, hcl]; trivial
    · have l1 := lt_of h1
      have l2 := lt_of h2
      have l3 := lt_of h3
      have l4 := lt_of h4
      have l5 := lt_of h5
      have l6 := lt_of h6
      show (if b = be then some Role.eng else _) = none
      rw [if_neg (by omega), if_neg (by omega), if_neg (by omega), if_neg (by omega), if_neg (by omega), if_neg (by omega)]
  refine ⟨⟨hm, rfl, hn, by simp [new], by simp [new], by simp [new], by simp [new], by simp [new]⟩, rfl, fun _ => rfl, fun s _ c hc => absurd ((hcl s).symm.trans hc) (by simp), fun s _ _ => rfl⟩
theorem engineNew (n l : Nat) (h1 : 1 ≤ n) (h2 : n ≤ 256) (h3 : 1 ≤ l) (h4 : l ≤ 1099511627776) (w : World) : Calls Tryz.prog 26 #[.agg #[.int .i64 (n : Int), .int .u64 (l : Int)]] w fun e w' => ∃ A, e = .returned (.tuple #[.pointer (some ⟨A.be, 0, none⟩), .int .i64 0]) ∧ Live A (new n l) w' ∧ Grow (fun _ => none) w A.L w' := by
  have hco := Lib.hid (confOk n l h1 h2 h3 h4)
  have han := Lib.hid (fun w => arenaNew (73 + n * 3 + 2000 + 1) (by omega) (by omega) w)
  have hpn := Lib.hid (fun w => poolNew n h1 (by omega) w)
  have hmv := fun w => make_values n (by omega) w
  have ea : ((73 + n * 3 + 2000 + 1 : Nat) : Int) = 73 + (n : Int) * 3 + 2000 + 1 := by omega
  rw [ea] at han
  have n1 : IntKind.i64.wrap ((n : Int) * 3) = (n : Int) * 3 := by rw [IntKind.wrap_i64]; omega
  have n2 : IntKind.i64.wrap (73 + (n : Int) * 3) = 73 + (n : Int) * 3 := by rw [IntKind.wrap_i64]; omega
  have n3 : IntKind.i64.wrap (73 + (n : Int) * 3 + 2000) = 73 + (n : Int) * 3 + 2000 := by rw [IntKind.wrap_i64]; omega
  have n4 : IntKind.i64.wrap (73 + (n : Int) * 3 + 2000 + 1) = 73 + (n : Int) * 3 + 2000 + 1 := by rw [IntKind.wrap_i64]; omega
  have HN := Lib.hid (And.intro h1 h2)
  have x0 : (w.alloc (.cells #[.int .i64 (n : Int), .int .u64 (l : Int)] 62)).cell? ⟨w.heap.size, 0, none⟩ = some (.int .i64 (n : Int)) := by rw [cell_of_row _ _ 0 _ _ _ (heap_alloc_new w _)]; rfl
  have x1 : (w.alloc (.cells #[.int .i64 (n : Int), .int .u64 (l : Int)] 62)).cell? ⟨w.heap.size, 1, none⟩ = some (.int .u64 (l : Int)) := by rw [cell_of_row _ _ 1 _ _ _ (heap_alloc_new w _)]; rfl
  have HC : Hid (∀ w1, Below (w.alloc (.cells #[.int .i64 (n : Int), .int .u64 (l : Int)] 62)).heap.size (w.alloc (.cells #[.int .i64 (n : Int), .int .u64 (l : Int)] 62)) w1 → w1.cell? ⟨w.heap.size, 0, none⟩ = some (.int .i64 (n : Int)) ∧ w1.cell? ⟨w.heap.size, 1, none⟩ = some (.int .u64 (l : Int)) ∧ w.heap.size < w1.heap.size) := by
    intro w1 hb
    have hs := size_alloc1 w (.cells #[.int .i64 (n : Int), .int .u64 (l : Int)] 62)
    have hz := hb.size
    exact ⟨(hb.cell (p := ⟨w.heap.size, 0, none⟩) (by rw [hs]; exact Nat.lt_succ_self _)).trans x0, (hb.cell (p := ⟨w.heap.size, 1, none⟩) (by rw [hs]; exact Nat.lt_succ_self _)).trans x1, by omega⟩
  have HB2 : Hid (∀ (w1 w2 : World) (a b : Obj), w2 = (w1.alloc a).alloc b → w.heap.size < w1.heap.size → w1.cell? ⟨w.heap.size, 0, none⟩ = some (.int .i64 (n : Int)) → w1.cell? ⟨w.heap.size, 1, none⟩ = some (.int .u64 (l : Int)) → w2.cell? ⟨w.heap.size, 0, none⟩ = some (.int .i64 (n : Int)) ∧ w2.cell? ⟨w.heap.size, 1, none⟩ = some (.int .u64 (l : Int)) ∧ w.heap.size < w2.heap.size) := by
    rintro w1 w2 a b rfl hl k0 k1
    have hb : Below w1.heap.size w1 ((w1.alloc a).alloc b) := ((Below.refl _ _).alloc (Nat.le_refl _) _).alloc (by simp) _
    exact ⟨(hb.cell (p := ⟨w.heap.size, 0, none⟩) hl).trans k0, (hb.cell (p := ⟨w.heap.size, 1, none⟩) hl).trans k1, Nat.lt_of_lt_of_le hl hb.size⟩
  clear h1 h2 h3 h4 ea
  go_enter Tryz.func26, Tryz.ntmps26
  go_wp2_with (first | (go_at_call 56; refine (hco.out _).mono ?_; rintro e w1 ⟨rfl, hb⟩; obtain ⟨y0, y1, hsz⟩ := HC.out w1 hb; have HB := Lib.hid (And.intro hb hsz); clear hb hsz) | (go_at_call 57; refine (han.out _).mono ?_; rintro e w2 ⟨rfl, hw2⟩; obtain ⟨z0, z1, hl2⟩ := HB2.out w1 w2 _ _ hw2 HB.out.2 y0 y1; have H2 := Lib.hid (And.intro hw2 hl2); clear hw2 hl2) | (go_at_call 58; refine (hpn.out _).mono ?_; rintro e w3 ⟨rfl, hw3⟩; obtain ⟨u0, u1, hl3⟩ := HB2.out w2 w3 _ _ hw3 H2.out.2 z0 z1; have H3 := Lib.hid (And.intro hw3 hl3); clear hw3 hl3))
  have v0 : (w3.alloc (.cells (madeCells #[.int .i64 0, .int .i64 0] (n * 2)) 153)).cell? ⟨w.heap.size, 0, none⟩ = some (.int .i64 (n : Int)) := by rw [World.cell?_alloc_past _ _ _ H3.out.2]; exact u0
  have v1 : (w3.alloc (.cells (madeCells #[.int .i64 0, .int .i64 0] (n * 2)) 153)).cell? ⟨w.heap.size, 1, none⟩ = some (.int .u64 (l : Int)) := by rw [World.cell?_alloc_past _ _ _ H3.out.2]; exact u1
  go_region
  go_wp2_with fail
  go_ret2
  obtain ⟨hw2, _⟩ := H2.out
  obtain ⟨hw3, _⟩ := H3.out
  obtain ⟨hb1, hl1⟩ := HB.out
  have two_old : ∀ (w : World) (a b : Obj), ((w.alloc a).alloc b).heap[w.heap.size]? = some a := fun w a b => (Below.heap_alloc _ _ _ (by simp)).trans (heap_alloc_new w a)
  have s2 : w2.heap.size = w1.heap.size + 2 := by rw [hw2]; simp
  have s3 : w3.heap.size = w2.heap.size + 2 := by rw [hw3]; simp
  have bel : ∀ (w : World) (a b : Obj), Below w.heap.size w ((w.alloc a).alloc b) := fun w a b => ((Below.refl _ _).alloc (Nat.le_refl _) _).alloc (by simp) _
  have f2a := two_old w1 (.cells (madeCells #[.int .u64 0] (73 + n * 3 + 2000 + 1)) 186) (.cells #[.slice (some ⟨w1.heap.size, 0, none⟩) (73 + n * 3 + 2000 + 1) (73 + n * 3 + 2000 + 1), .int .i64 0] 177)
  have f2b := heap_alloc2_new w1 (.cells (madeCells #[.int .u64 0] (73 + n * 3 + 2000 + 1)) 186) (.cells #[.slice (some ⟨w1.heap.size, 0, none⟩) (73 + n * 3 + 2000 + 1) (73 + n * 3 + 2000 + 1), .int .i64 0] 177)
  rw [← hw2] at f2a f2b
  have f3a := two_old w2 (.cells (madeCells #[.int .i64 0, .bool false] (n * 2)) 249) (.cells #[.slice (some ⟨w2.heap.size, 0, none⟩) n n, .int .i64 65535, .slice none 0 0, .int .i64 0, .int .u32 0, .int .i32 0, .int .u32 0] 183)
  have f3b := heap_alloc2_new w2 (.cells (madeCells #[.int .i64 0, .bool false] (n * 2)) 249) (.cells #[.slice (some ⟨w2.heap.size, 0, none⟩) n n, .int .i64 65535, .slice none 0 0, .int .i64 0, .int .u32 0, .int .i32 0, .int .u32 0] 183)
  rw [← hw3] at f3a f3b
  have b12 : Below w1.heap.size w1 w2 := by rw [hw2]; exact bel _ _ _
  have b23 : Below w2.heap.size w2 w3 := by rw [hw3]; exact bel _ _ _
  have b34 := (bel w3 (.cells (madeCells #[.int .i64 0, .int .i64 0] (n * 2)) 153) (.cells #[.int .i64 (n : Int), .int .u64 (l : Int), .pointer (some ⟨w1.heap.size + 1, 0, none⟩), .pointer (some ⟨w2.heap.size + 1, 0, none⟩), .slice (some ⟨w3.heap.size, 0, none⟩) n n, .pointer none, .pointer none, .pointer none, .pointer none, .pointer none, .pointer none, .pointer none, .pointer none, .pointer none, .pointer none, .pointer none, .pointer none, .pointer none, .pointer none, .pointer none, .pointer none, .int .i64 0, .int .i64 0, .int .i64 0, .slice none 0 0, .nilFunc, .int .u64 0, .slice none 0 0, .bool false] 113)).drew
  have b0w : Below w.heap.size w w1 := ((Below.refl _ _).alloc (Nat.le_refl _) _).trans (hb1.mono (by simp))
  have f4a := two_old w3 (.cells (madeCells #[.int .i64 0, .int .i64 0] (n * 2)) 153) (.cells #[.int .i64 (n : Int), .int .u64 (l : Int), .pointer (some ⟨w1.heap.size + 1, 0, none⟩), .pointer (some ⟨w2.heap.size + 1, 0, none⟩), .slice (some ⟨w3.heap.size, 0, none⟩) n n, .pointer none, .pointer none, .pointer none, .pointer none, .pointer none, .pointer none, .pointer none, .pointer none, .pointer none, .pointer none, .pointer none, .pointer none, .pointer none, .pointer none, .pointer none, .pointer none, .int .i64 0, .int .i64 0, .int .i64 0, .slice none 0 0, .nilFunc, .int .u64 0, .slice none 0 0, .bool false] 113)
  have f4b := heap_alloc2_new w3 (.cells (madeCells #[.int .i64 0, .int .i64 0] (n * 2)) 153) (.cells #[.int .i64 (n : Int), .int .u64 (l : Int), .pointer (some ⟨w1.heap.size + 1, 0, none⟩), .pointer (some ⟨w2.heap.size + 1, 0, none⟩), .slice (some ⟨w3.heap.size, 0, none⟩) n n, .pointer none, .pointer none, .pointer none, .pointer none, .pointer none, .pointer none, .pointer none, .pointer none, .pointer none, .pointer none, .pointer none, .pointer none, .pointer none, .pointer none, .pointer none, .pointer none, .int .i64 0, .int .i64 0, .int .i64 0, .slice none 0 0, .nilFunc, .int .u64 0, .slice none 0 0, .bool false] 113)
  refine ⟨book0 (w3.heap.size + 1) (w1.heap.size + 1) w1.heap.size (w2.heap.size + 1) w2.heap.size w3.heap.size, rfl, ?_, ?_⟩
  · refine rep_new HN.out (by omega) f4b ?_ ?_ ?_ ?_ f4a
    · exact (b34.block _ (by omega)).trans ((b23.block _ (by omega)).trans f2b)
    · exact (b34.block _ (by omega)).trans ((b23.block _ (by omega)).trans f2a)
    · exact (b34.block _ (by omega)).trans f3b
    · exact (b34.block _ (by omega)).trans f3a
  · have hall := ((b0w.trans (b12.mono (by omega))).trans (b23.mono (by omega))).trans (b34.mono (by omega))
    refine ⟨hall.os, hall.tape, hall.output, hall.size, fun b hb _ => hall.block b hb, fun b hb => ?_, fun b hb e => by cases e⟩
    show (if b = w3.heap.size + 1 then some Role.eng else _) = none
    rw [if_neg (by omega), if_neg (by omega), if_neg (by omega), if_neg (by omega), if_neg (by omega), if_neg (by omega)]
end Go.Proofs.YtbefcdjcefmicaaGreat.Em

namespace Go.Proofs.YtbefcdjcefmicaaGreat.Em
open Go.ChangeShapes Go.WideShapes Go.ChangeAt Go.RowKit En
set_option linter.unusedVariables false
set_option linter.unusedSimpArgs false
set_option maxRecDepth 100000
set_option maxHeartbeats 1600000

theorem Grow.toBelow {L' : Lab} {w w' : World} (g : Grow (fun _ => none) w L' w') : Below w.heap.size w w' := ⟨g.os, g.tape, g.output, g.size, fun b hb => g.block b hb rfl⟩
/-- A whole run, told: each result's error, number and end. -/
def toldOf (x : Option (St × List Res × Nat)) : Option (List (Nat × Nat × Nat) × Nat) := x.map fun y => (y.2.1.map fun r => (r.e, r.value, r.over), y.2.2)
theorem awakeRun : toldOf (runWhole 1000 (new 8 100) 0 3 [⟨2, 5, 0, 7⟩]) = some ([(0, 0, 0), (0, 0, 3)], 0) := by decide +kernel
theorem told_some {x : Option (St × List Res × Nat)} {l : List (Nat × Nat × Nat)} {e : Nat} (h : toldOf x = some (l, e)) : ∃ σ' rs, x = some (σ', rs, e) ∧ rs.map (fun r => (r.e, r.value, r.over)) = l := by
  cases x with
  | none => cases h
  | some y => obtain ⟨σ', rs, e'⟩ := y; simp only [toldOf, Option.map_some, Option.some.injEq, Prod.mk.injEq] at h; exact ⟨σ', rs, by rw [h.2], h.1⟩
theorem frow_block {L : Lab} {w : World} {b n size : Nat} {xs : List Value} {T : TypeId} (h : Fix L w b (.cells xs.toArray T)) (hl : xs.length = n * size) (hn : n ≤ 1000000) : FRow L w size (.slice (some ⟨b, 0, none⟩) n n) xs := by
  refine ⟨_, n, n, rfl, hl, Nat.le_refl _, by unfold maxLen; omega, .inr ⟨b, 0, rfl, h.1, lt_of h.2, fun j hj => ?_⟩⟩
  rw [Nat.zero_add]
  have hj' : j < xs.length := by omega
  rw [List.getElem?_eq_getElem hj']
  exact h.cell j (by simp [hj'])
theorem two_told {L : Lab} {w : World} {vo : Value} {cs : List Value} {rs : List Res} {a0 a1 a2 b0 b1 b2 : Nat} (h1 : TRow L w 5 vo cs) (h2 : ResRow L w rs cs) (h3 : rs.map (fun r => (r.e, r.value, r.over)) = [(a0, a1, a2), (b0, b1, b2)]) :
    ∃ b off cap, vo = .slice (some ⟨b, off, none⟩) 2 cap ∧ w.cell? ⟨b, off, none⟩ = some (.int .i64 (a0 : Int)) ∧ w.cell? ⟨b, off + 5 + 3, none⟩ = some (.int .i64 (b2 : Int)) := by
  match rs, h2, h3 with
  | [r0, r1], h2, h3 =>
    simp only [List.map_cons, List.map_nil, List.cons.injEq, Prod.mk.injEq, and_true] at h3
    obtain ⟨⟨rfl, rfl, rfl⟩, rfl, rfl, rfl⟩ := h3
    obtain ⟨v0, c0, rfl, _, v1, c1, rfl, _, rfl⟩ := h2
    obtain ⟨⟨a, n, cap, rfl, hl, _, _, h5⟩, _⟩ := h1
    have hn : n = 2 := by simp at hl; omega
    subst hn
    rcases h5 with h5 | ⟨b, off, rfl, _, _, hc⟩
    · omega
    · refine ⟨b, off, cap, rfl, ?_, ?_⟩
      · exact hc 0 (by omega)
      · exact hc 8 (by omega)
theorem awake24 (w : World) : Calls Tryz.prog 35 #[] w fun e w' => e = .returned (.bool true) ∧ Below w.heap.size w w' := by
  have hN := engineNew 8 100 (by omega) (by omega) (by omega) (by omega) w
  rw [show ((8 : Nat) : Int) = 8 from rfl, show ((100 : Nat) : Int) = 100 from rfl] at hN
  have HN := Lib.hid hN
  obtain ⟨σ', rs, hrun, hrs⟩ := told_some awakeRun
  have hW : ∀ A w1, Live A (new 8 100) w1 → Calls Tryz.prog 34 #[.pointer (some ⟨A.be, 0, none⟩), .int .i64 0, .int .i64 3, .slice (some ⟨w1.heap.size, 0, none⟩) 1 1] (w1.alloc (.cells #[.int .i64 2, .int .i64 5, .int .i64 0, .int .i64 7] 31)) (Wholed A (w1.alloc (.cells #[.int .i64 2, .int .i64 5, .int .i64 0, .int .i64 7] 31)) σ' rs 0) := fun A w1 hL =>
    whole_any (hL.alloc _) 0 (by omega) 3 [⟨2, 5, 0, 7⟩] _ 1 1 (frow_block (xs := [.int .i64 2, .int .i64 5, .int .i64 0, .int .i64 7]) (fix_next hL.rep.mem.fresh _ rfl) rfl (by omega)) (by omega) 1000 (by omega) σ' rs 0 hrun
  have HW := Lib.hid hW
  have HB : Hid (∀ w, Calls Tryz.prog 67 #[.int .i64 1, .int .i64 2] w fun e w' => e = .returned (.int .i64 264000) ∧ w = w') := by
    intro w
    have h := bound_any 1 2 w
    rw [show boundOf 1 2 = 264000 by decide +kernel] at h
    exact h
  clear hN hW hrun
  go_enter Tryz.func35, Tryz.ntmps35
  go_wp2_with (first | (go_at_call 26; refine HN.out.mono ?_; rintro e w1 ⟨A, rfl, q1, q2⟩; have HW1 := Lib.hid (HW.out A w1 q1); have H1 := Lib.hid (And.intro q1 q2); clear q1 q2) | (go_at_call 34; refine HW1.out.mono ?_; rintro e w2 ⟨A2, vo, cs, rfl, p1, p2, p3, p4, p5⟩; obtain ⟨rb, ro, rc, rfl, x0, x3⟩ := two_told p1 p2 hrs; have H2 := Lib.hid p4; clear p1 p2 p3 p4 p5) | (go_at_call 67; refine (HB.out _).mono ?_; rintro e w' ⟨rfl, rfl⟩))
  go_ret
  exact ⟨rfl, ((H1.out.2.trans (Grow.alloc _ _ _)).trans H2.out).toBelow⟩
theorem capTo_range (n : Int) : 0 ≤ capTo n ∧ capTo n ≤ 1000 := by unfold capTo; omega
end Go.Proofs.YtbefcdjcefmicaaGreat.Em

namespace Go.Proofs.YtbefcdjcefmicaaGreat.Em
open Go.ChangeShapes Go.WideShapes Go.ChangeAt Go.RowKit En
set_option linter.unusedVariables false
set_option linter.unusedSimpArgs false
set_option maxRecDepth 100000
set_option maxHeartbeats 1600000

theorem below_drewN (w : World) (n : Nat) : Below w.heap.size w (w.drewN n) := ⟨rfl, rfl, rfl, Nat.le_refl _, fun _ _ => rfl⟩
theorem now_any {A : Book} {σ : St} {w : World} (hR : Rep A σ w) (hx : σ.word 0 < 18446744073709551616) : Calls Tryz.prog 27 #[.pointer (some ⟨A.be, 0, none⟩)] w fun e w' => e = .returned (.int .u64 (σ.now : Int)) ∧ Below w.heap.size w w' := by
  have c2 : w.cell? ⟨A.be, 2, none⟩ = some (.pointer (some ⟨A.ba, 0, none⟩)) := hR.eng 2 rfl
  have HP := Lib.hid (peek_any hR 0 (by rw [hR.nw]; omega))
  have HD := Lib.hid (drawn_any (σ.word 0) hx)
  clear hR hx
  go_enter Tryz.func27, Tryz.ntmps27
  go_wp2_with (first | (go_at_call 60; refine HP.out.mono ?_; rintro e w' ⟨rfl, n, rfl⟩) | (go_at_call 59; refine (HD.out _).mono ?_; rintro e w' ⟨rfl, rfl⟩))
  go_ret
  exact ⟨rfl, below_drewN _ _⟩
theorem looks_any {A : Book} {σ : St} {w : World} (hR : Rep A σ w) : Calls Tryz.prog 29 #[.pointer (some ⟨A.be, 0, none⟩)] w fun e w' => e = .returned (.int .i64 (σ.looks : Int)) ∧ w = w' := by
  have c2 : w.cell? ⟨A.be, 23, none⟩ = some (.int .i64 (σ.looks : Int)) := hR.eng 23 rfl
  clear hR
  go_enter Tryz.func29, Tryz.ntmps29
  go_wp2
  go_ret
  exact ⟨rfl, rfl⟩
theorem done_any {A : Book} {σ : St} {w : World} (hR : Rep A σ w) (x : Nat) (hx : x < 18446744073709551616) (h2 : (rd x).1 = 2 → (rd x).2 ≤ 65535 ∧ σ.place (rd x).2 < σ.words.length ∧ σ.word (σ.place (rd x).2) < 18446744073709551616) :
    Calls Tryz.prog 63 #[.pointer (some ⟨A.be, 0, none⟩), .int .u64 (x : Int)] w fun e w' => e = .returned (.bool (σ.done x)) ∧ Below w.heap.size w w' := by
  obtain ⟨k1, k2⟩ := rd_cast x
  have hrd := Word.read_any (x : Int) (by omega) (by omega) w
  rw [k1, k2] at hrd
  have HRD := Lib.hid hrd
  have HW : Hid (∀ w1 w2, Below w.heap.size w w1 → w2 = w1.alloc (.cells #[.int .i64 ((rd x).1 : Int), .int .u64 ((rd x).2 : Int)] 190) → Below w.heap.size w w2 ∧ Rep A σ w2 ∧ ∀ w', Below w2.heap.size w2 w' → w'.cell? ⟨A.be, 2, none⟩ = some (.pointer (some ⟨A.ba, 0, none⟩)) ∧ w'.cell? ⟨w1.heap.size, 1, none⟩ = some (.int .u64 ((rd x).2 : Int))) := by
    rintro w1 w2 hb rfl
    have r1 := (hR.below hb).alloc (.cells #[.int .i64 ((rd x).1 : Int), .int .u64 ((rd x).2 : Int)] 190)
    have f := fix_next (hR.below hb).mem.fresh (.cells #[.int .i64 ((rd x).1 : Int), .int .u64 ((rd x).2 : Int)] 190) rfl
    exact ⟨hb.alloc hb.size _, r1, fun w' hb' => ⟨(r1.below hb').eng 2 rfl, (f.grow (Grow.below hb')).cell 1 rfl⟩⟩
  have hd : σ.done x = ((rd x).1 == 1 || ((rd x).1 == 2 && stateOf (σ.word (σ.place (rd x).2)) == 3)) := rfl
  have hkind : (rd x).1 = 0 ∨ (rd x).1 = 1 ∨ (rd x).1 = 2 ∨ (rd x).1 = 3 := by unfold rd; split <;> (try split) <;> (try split) <;> simp
  clear hrd k1 k2
  generalize (rd x).2 = n at *
  generalize hk : (rd x).1 = kd at *
  clear hk
  rcases hkind with rfl | rfl | rfl | rfl
  · rw [hd]
    clear hd h2 hR
    go_enter Tryz.func63, Tryz.ntmps63
    go_wp2_with (first | (go_at_call 93; refine HRD.out.mono ?_; rintro e w1 ⟨rfl, hb⟩; obtain ⟨hb2, hr2, hc2⟩ := HW.out w1 _ hb rfl; have HB2 := Lib.hid hb2; clear hb2 hr2 hc2))
    go_ret
    exact ⟨rfl, HB2.out⟩
  · rw [hd]
    clear hd h2 hR
    go_enter Tryz.func63, Tryz.ntmps63
    go_wp2_with (first | (go_at_call 93; refine HRD.out.mono ?_; rintro e w1 ⟨rfl, hb⟩; obtain ⟨hb2, hr2, hc2⟩ := HW.out w1 _ hb rfl; have HB2 := Lib.hid hb2; clear hb2 hr2 hc2))
    go_ret
    exact ⟨rfl, HB2.out⟩
  · rw [hd]
    obtain ⟨m1, m2, m3⟩ := h2 rfl
    clear hd h2 hR
    have n1 : IntKind.i64.wrap (n : Int) = (n : Int) := by rw [IntKind.wrap_i64]; omega
    have HU := Lib.hid (fun w' => unpack_any (σ.word (σ.place n)) m3 w')
    go_enter Tryz.func63, Tryz.ntmps63
    go_wp2_with (first | (go_at_call 93; refine HRD.out.mono ?_; rintro e w1 ⟨rfl, hb⟩; obtain ⟨hb2, hr2, hc2⟩ := HW.out w1 _ hb rfl; have HB2 := Lib.hid hb2; clear hb2))
    generalize hw2 : w1.alloc _ = w2 at *
    obtain ⟨c2, c1⟩ := hc2 w2 (Below.refl _ _)
    have HC := Lib.hid hc2
    have HPl := Lib.hid (place_still hr2.drew n m1)
    have HPk := Lib.hid (peek_any hr2.drew (σ.place n) m2)
    clear hc2 hr2 m1 m2 m3 hw2
    go_region_held3 (fun w' => w'.cell? ⟨A.be, 2, none⟩ = some (.pointer (some ⟨A.ba, 0, none⟩)) ∧ w'.cell? ⟨w1.heap.size, 1, none⟩ = some (.int .u64 (n : Int)))
      (first | exact ⟨c2, c1⟩ | assumption | exact HC.out _ (by assumption))
      (first | (go_at_call 78; refine HPl.out.mono ?_; rintro e w' ⟨rfl, rfl⟩) | (go_at_call 60; refine HPk.out.mono ?_; rintro e w3 ⟨rfl, nn, hw3⟩; have hb3 : Below w2.heap.size w2 w3 := (by rw [hw3]; exact ⟨rfl, rfl, rfl, Nat.le_refl _, fun _ _ => rfl⟩); clear hw3) | (go_at_call 94; refine (HU.out _).mono ?_; rintro e w' ⟨rfl, rfl⟩))
    go_wp2_with fail
    go_ret
    refine ⟨?_, HB2.out.trans (hb3.mono HB2.out.size)⟩
    generalize stateOf (σ.word (σ.place n)) = q
    have e : (((q : Nat) : Int) == 3) = (q == 3) := by rw [Bool.eq_iff_iff]; simp; omega
    show Ending.returned (.bool (((q : Nat) : Int) == 3)) = Ending.returned (.bool ((2 == 1 || (2 == 2 && q == 3))))
    rw [e]
    rfl
  · rw [hd]
    clear hd h2 hR
    go_enter Tryz.func63, Tryz.ntmps63
    go_wp2_with (first | (go_at_call 93; refine HRD.out.mono ?_; rintro e w1 ⟨rfl, hb⟩; obtain ⟨hb2, hr2, hc2⟩ := HW.out w1 _ hb rfl; have HB2 := Lib.hid hb2; clear hb2 hr2 hc2))
    go_ret
    exact ⟨rfl, HB2.out⟩
end Go.Proofs.YtbefcdjcefmicaaGreat.Em

namespace Go.Proofs.YtbefcdjcefmicaaGreat.Em
open Go.ChangeShapes Go.WideShapes Go.ChangeAt Go.RowKit En
set_option linter.unusedVariables false
set_option linter.unusedSimpArgs false
set_option maxRecDepth 100000
set_option maxHeartbeats 1600000

theorem list_slots (σ : St) : σ.list.slots = σ.slots ∧ σ.list.worn = σ.worn := by unfold St.list; split <;> exact ⟨rfl, rfl⟩
theorem pool_free {A : Book} {σ : St} {w : World} (hR : Rep A σ w) (hm : A.mp = 0) (hn : σ.free.length < 100000) :
    Calls Tryz.prog 91 #[.pointer (some ⟨A.bp, 0, none⟩)] w (Pooled A w σ.list (.int .i64 (σ.list.free.length : Int))) := by
  have HL := Lib.hid (list_any hR hm hn)
  clear hR hm hn
  go_enter Tryz.func91, Tryz.ntmps91
  go_wp2_with (go_at_call 129; refine HL.out.mono ?_; rintro e w1 ⟨rfl, A', q1, q2, q3⟩; have hown := q2.mem.all .free; obtain ⟨av, cp, hv, _⟩ := Ow.own_form hown.1; have c2 := q2.pool 2 (v := A'.vfree) rfl; rw [hv] at c2; obtain ⟨⟨L, vf, m, hA'⟩, hmp⟩ := id q1; have ebp : A'.bp = A.bp := (by rw [hA']); rw [ebp] at c2; have HQ := Lib.hid (And.intro q1 (And.intro q2 q3)); clear q1 q2 q3 hown hv hA' hmp ebp)
  go_ret
  exact ⟨rfl, A', HQ.out⟩
theorem pool_used {A : Book} {σ : St} {w : World} (hR : Rep A σ w) (hm : A.mp = 0) (hn : σ.free.length < 100000) (hu : σ.list.free.length + σ.worn ≤ σ.slots) :
    Calls Tryz.prog 61 #[.pointer (some ⟨A.bp, 0, none⟩)] w (Pooled A w σ.list (.int .i64 (σ.used : Int))) := by
  have hsl := hR.sl
  have c0 : w.drew.cell? ⟨A.bp, 0, none⟩ = some (.slice (some ⟨A.bs, 0, none⟩) σ.slots σ.slots) := hR.pool 0 rfl
  have c3 : w.drew.cell? ⟨A.bp, 3, none⟩ = some (.int .i64 (σ.worn : Int)) := hR.pool 3 rfl
  obtain ⟨e1, e2⟩ := list_slots σ
  have hused : (σ.used : Int) = (σ.slots : Int) - (σ.list.free.length : Int) - (σ.worn : Int) := by unfold St.used; rw [e1]; omega
  rw [hused]
  have HF := Lib.hid (pool_free hR.drew hm hn)
  have n1 : IntKind.i64.wrap ((σ.slots : Int) - (σ.list.free.length : Int)) = (σ.slots : Int) - (σ.list.free.length : Int) := by rw [IntKind.wrap_i64]; omega
  have n2 : IntKind.i64.wrap ((σ.slots : Int) - (σ.list.free.length : Int) - (σ.worn : Int)) = (σ.slots : Int) - (σ.list.free.length : Int) - (σ.worn : Int) := by rw [IntKind.wrap_i64]; omega
  have HC : Hid (∀ A' w', PoolOnly A A' → Rep A' σ.list w' → w'.cell? ⟨A.bp, 0, none⟩ = some (.slice (some ⟨A.bs, 0, none⟩) σ.slots σ.slots) ∧ w'.cell? ⟨A.bp, 3, none⟩ = some (.int .i64 (σ.worn : Int))) := by
    rintro A' w' ⟨⟨L, vf, m, rfl⟩, _⟩ r
    have h0 := r.pool 0 (v := .slice (some ⟨A.bs, 0, none⟩) σ.list.slots σ.list.slots) rfl
    have h3 := r.pool 3 (v := .int .i64 (σ.list.worn : Int)) rfl
    rw [e1] at h0
    rw [e2] at h3
    exact ⟨h0, h3⟩
  clear hR hm hn hu hsl e1 e2 hused
  generalize (σ.list.free.length : Int) = fl at *
  generalize (σ.worn : Int) = wn at *
  go_enter Tryz.func61, Tryz.ntmps61
  go_wp2_with fail
  go_region_held3 (fun w' => w'.cell? ⟨A.bp, 0, none⟩ = some (.slice (some ⟨A.bs, 0, none⟩) σ.slots σ.slots) ∧ w'.cell? ⟨A.bp, 3, none⟩ = some (.int .i64 wn))
    (first | exact ⟨c0, c3⟩ | assumption | exact HC.out _ _ (by assumption) (by assumption))
    (first | (go_at_call 91; refine HF.out.mono ?_; rintro e w1 ⟨rfl, A', q1, q2, q3⟩))
  go_wp2_with fail
  go_ret
  exact ⟨rfl, A', q1, q2, (Grow.drew _ _).trans q3⟩
theorem used_any {A : Book} {σ : St} {w : World} (hR : Rep A σ w) (hm : A.mp = 0) (hn : σ.free.length < 100000) (hu : σ.list.free.length + σ.worn ≤ σ.slots) :
    Calls Tryz.prog 28 #[.pointer (some ⟨A.be, 0, none⟩)] w (Pooled A w σ.list (.int .i64 (σ.used : Int))) := by
  have c3 : w.cell? ⟨A.be, 3, none⟩ = some (.pointer (some ⟨A.bp, 0, none⟩)) := hR.eng 3 rfl
  have HU := Lib.hid (pool_used hR hm hn hu)
  clear hR hm hn hu
  go_enter Tryz.func28, Tryz.ntmps28
  go_wp2_with (go_at_call 61; refine HU.out.mono ?_; rintro e w1 ⟨rfl, A', q1, q2, q3⟩)
  go_ret
  exact ⟨rfl, A', q1, q2, q3⟩
end Go.Proofs.YtbefcdjcefmicaaGreat.Em

namespace Go.Proofs.YtbefcdjcefmicaaGreat.Em
open Go.ChangeShapes Go.WideShapes Go.ChangeAt Go.RowKit En
set_option linter.unusedVariables false
set_option linter.unusedSimpArgs false
set_option maxRecDepth 100000
set_option maxHeartbeats 1600000

theorem heap_setCells9 {w : World} {b : Nat} {a0 a1 a2 a3 a4 a5 a6 a7 a8 : Value} {T : TypeId} (h : w.heap[b]? = some (.cells #[a0, a1, a2, a3, a4, a5, a6, a7, a8] T)) (v0 v1 v2 v3 v4 v5 v6 v7 v8 : Value) : (w.setCells b 0 [v0, v1, v2, v3, v4, v5, v6, v7, v8]).heap[b]? = some (.cells #[v0, v1, v2, v3, v4, v5, v6, v7, v8] T) := by
  have h0 := heap_setCell_same h 0 v0
  have h1 := heap_setCell_same h0 1 v1
  have h2 := heap_setCell_same h1 2 v2
  have h3 := heap_setCell_same h2 3 v3
  have h4 := heap_setCell_same h3 4 v4
  have h5 := heap_setCell_same h4 5 v5
  have h6 := heap_setCell_same h5 6 v6
  have h7 := heap_setCell_same h6 7 v7
  have h8 := heap_setCell_same h7 8 v8
  simpa [World.setCells] using h8
theorem Below.setCells9 {B b : Nat} {a w : World} (h : Below B a w) (hb : B ≤ b) (v0 v1 v2 v3 v4 v5 v6 v7 v8 : Value) : Below B a (w.setCells b 0 [v0, v1, v2, v3, v4, v5, v6, v7, v8]) :=
  ((((((((h.setCell (p := ⟨b, 0, none⟩) hb v0).setCell (p := ⟨b, 1, none⟩) hb v1).setCell (p := ⟨b, 2, none⟩) hb v2).setCell (p := ⟨b, 3, none⟩) hb v3).setCell (p := ⟨b, 4, none⟩) hb v4).setCell (p := ⟨b, 5, none⟩) hb v5).setCell (p := ⟨b, 6, none⟩) hb v6).setCell (p := ⟨b, 7, none⟩) hb v7).setCell (p := ⟨b, 8, none⟩) hb v8
def statusCs (x : Status) : Array Value := #[.bool x.live, .bool x.busy, .bool x.waits, .int .i64 (x.id : Int), .int .i64 (x.level : Int), .int .i64 (x.state : Int), .int .u64 (x.begin_ : Int), .int .u64 (x.end_ : Int), .int .i64 (x.ops : Int)]
theorem status_none {A : Book} {σ : St} {w : World} (hR : Rep A σ w) (s : Nat) (hs : s < 8) (ht : σ.txns.getD s none = none) :
    Calls Tryz.prog 18 #[.pointer (some ⟨A.be, 0, none⟩), .int .i64 (s : Int)] w fun e w' => e = .returned (.agg #[.bool false, .bool false, .bool false, .int .i64 0, .int .i64 0, .int .i64 0, .int .u64 0, .int .u64 0, .int .i64 0]) ∧ Below w.heap.size w w' := by
  have b1 : (s : Int) < 8 := by omega
  have b0 : (0 : Int) ≤ (s : Int) := by omega
  have hsok := Lib.hid (sessionOk s hs)
  have r1 := hR.alloc (.cells #[.bool false, .bool false, .bool false, .int .i64 0, .int .i64 0, .int .i64 0, .int .u64 0, .int .u64 0, .int .i64 0] 38)
  have v5 := r1.eng (5 + s) (engCs_txn A σ hs)
  rw [show A.tp σ s = .pointer none by unfold Book.tp; rw [ht]] at v5
  clear hR hs ht r1
  go_enter Tryz.func18, Tryz.ntmps18
  go_wp2_with (go_at_call 48; refine (hsok.out _).mono ?_; rintro e w' ⟨rfl, rfl⟩)
  (try simp only [Exit.inBlock, Exit.then])
  refine bodyPost_ret (results_cell_row rfl _ _ w.heap.size 38 #[.bool false, .bool false, .bool false, .int .i64 0, .int .i64 0, .int .i64 0, .int .u64 0, .int .u64 0, .int .i64 0] _ _ rfl (heap_alloc_new w _) Tryz.underlying38 rfl (by kernel_rfl)) rfl ?_
  exact ⟨rfl, (Below.refl _ w).alloc (Nat.le_refl _) _⟩
theorem status_00 {A : Book} {σ : St} {w : World} (hL : Live A σ w) (s : Nat) (hs : s < 8) (t : Txn) (ht : σ.txns.getD s none = some t) (he : t.end_ = 0) (hc : σ.calls.getD s none = none) :
    Calls Tryz.prog 18 #[.pointer (some ⟨A.be, 0, none⟩), .int .i64 (s : Int)] w fun e w' => e = .returned (.agg #[.bool true, .bool false, .bool false, .int .i64 (t.id : Int), .int .i64 (t.level : Int), .int .i64 1, .int .u64 (t.begin_ : Int), .int .u64 (t.end_ : Int), .int .i64 (t.ops : Int)]) ∧ Below w.heap.size w w' := by
  have hR := hL.rep
  have b1 : (s : Int) < 8 := by omega
  have b0 : (0 : Int) ≤ (s : Int) := by omega
  have hsok := Lib.hid (sessionOk s hs)
  have r1 := hR.alloc (.cells #[.bool false, .bool false, .bool false, .int .i64 0, .int .i64 0, .int .i64 0, .int .u64 0, .int .u64 0, .int .i64 0] 38)
  have H1 : Hid (∀ w', Below (w.alloc (.cells #[.bool false, .bool false, .bool false, .int .i64 0, .int .i64 0, .int .i64 0, .int .u64 0, .int .u64 0, .int .i64 0] 38)).heap.size (w.alloc (.cells #[.bool false, .bool false, .bool false, .int .i64 0, .int .i64 0, .int .i64 0, .int .u64 0, .int .u64 0, .int .i64 0] 38)) w' → w'.cell? ⟨A.be, 5 + s, none⟩ = some (.pointer (some ⟨A.bt s, 0, none⟩)) ∧ w'.cell? ⟨A.be, 13 + s, none⟩ = some (.pointer none) ∧ w'.cell? ⟨A.bt s, 0, none⟩ = some (.int .i64 (t.id : Int)) ∧ w'.cell? ⟨A.bt s, 1, none⟩ = some (.int .i64 (t.level : Int)) ∧ w'.cell? ⟨A.bt s, 3, none⟩ = some (.int .u64 (t.begin_ : Int)) ∧ w'.cell? ⟨A.bt s, 4, none⟩ = some (.int .u64 (t.end_ : Int)) ∧ w'.cell? ⟨A.bt s, 5, none⟩ = some (.int .i64 (t.ops : Int))) := by
    intro w' hb
    have r := r1.below hb
    have h5 := r.eng (5 + s) (engCs_txn A σ hs)
    rw [show A.tp σ s = .pointer (some ⟨A.bt s, 0, none⟩) by unfold Book.tp; rw [ht]] at h5
    have h13 := r.eng (13 + s) (engCs_call A σ hs)
    rw [hL.idle s hs hc] at h13
    exact ⟨h5, h13, r.txn ht 0 rfl, r.txn ht 1 rfl, r.txn ht 3 rfl, r.txn ht 4 rfl, r.txn ht 5 rfl⟩
  obtain ⟨v5, v13, t0, t1, t3, t4, t5⟩ := H1.out _ (Below.refl _ _)
  have fe1 : ((t.end_ : Int) == 0) = true := by first | (simp; done) | (simp; omega)
  have fe2 : ((t.end_ : Int) = 0) = True := by first | (simp; done) | (simp; omega)
  have fe3 : (t.end_ = 0) = True := by first | (simp; done) | (simp; omega)
  have fe4 : (t.end_ == 0) = true := by first | (simp; done) | (simp; omega)
  have fe5 : ((t.end_ : Int) != 0) = false := by first | (simp; done) | (simp; omega)
  have ff1 : decide ((0 : Int) < (t.end_ : Int)) = false := by first | (simp; done) | (simp; omega)
  have ff2 : ((0 : Int) < (t.end_ : Int)) = False := by first | (simp; done) | (simp; omega)
  have ff3 : (0 < t.end_) = False := by first | (simp; done) | (simp; omega)
  have ff4 : decide (0 < t.end_) = false := by first | (simp; done) | (simp; omega)
  clear hL hR hs ht r1 he
  go_enter Tryz.func18, Tryz.ntmps18
  go_wp2_with (go_at_call 48; refine (hsok.out _).mono ?_; rintro e w' ⟨rfl, rfl⟩)
  have HZ0 : Hid ((w.alloc (.cells #[.bool false, .bool false, .bool false, .int .i64 0, .int .i64 0, .int .i64 0, .int .u64 0, .int .u64 0, .int .i64 0] 38)).heap[w.heap.size]? = some (.cells #[.bool false, .bool false, .bool false, .int .i64 0, .int .i64 0, .int .i64 0, .int .u64 0, .int .u64 0, .int .i64 0] 38) ∧ Below w.heap.size w (w.alloc (.cells #[.bool false, .bool false, .bool false, .int .i64 0, .int .i64 0, .int .i64 0, .int .u64 0, .int .u64 0, .int .i64 0] 38)) ∧ w.heap.size < (w.alloc (.cells #[.bool false, .bool false, .bool false, .int .i64 0, .int .i64 0, .int .i64 0, .int .u64 0, .int .u64 0, .int .i64 0] 38)).heap.size) := ⟨heap_alloc_new w _, (Below.refl _ w).alloc (Nat.le_refl _) _, by simp⟩
  clear v5 v13 t0 t1 t3 t4 t5
  generalize hw0 : w.alloc _ = w0 at *
  obtain ⟨v5, v13, t0, t1, t3, t4, t5⟩ := H1.out w0 (Below.refl _ _)
  go_quiet (fail)
  clear v5 v13 t0 t1 t3 t4 t5
  generalize hw5 : w0.drewN _ = w5
  have hb5 : Below w0.heap.size w0 w5 := by rw [← hw5]; exact ⟨rfl, rfl, rfl, Nat.le_refl _, fun _ _ => rfl⟩
  obtain ⟨v5, v13, t0, t1, t3, t4, t5⟩ := H1.out w5 hb5
  obtain ⟨_, _, y0, y1, y3, y4, y5⟩ := H1.out (w5.alloc (.cells #[.bool false, .bool false, .bool false, .int .i64 0, .int .i64 0, .int .i64 0, .int .u64 0, .int .u64 0, .int .i64 0] 38)) (hb5.alloc hb5.size _)
  go_wp2_with fail
  go_region
  generalize hw6 : World.drew _ = w6
  have F6 : Fix (fun _ => none) w6 w5.heap.size (.cells #[.bool true, .bool false, .bool false, .int .i64 (t.id : Int), .int .i64 (t.level : Int), .int .i64 1, .int .u64 (t.begin_ : Int), .int .u64 (t.end_ : Int), .int .i64 (t.ops : Int)] 38) := ⟨rfl, by rw [← hw6]; exact heap_alloc_new w5 _⟩
  have hb6 : Below w0.heap.size w0 w6 := by rw [← hw6]; exact (hb5.alloc hb5.size _).drew
  have hz6 : w5.heap.size < w6.heap.size := lt_of F6.2
  have HB6 := Lib.hid (And.intro hb6 (And.intro F6 hb5.size))
  obtain ⟨_, _, _, _, _, u4, _⟩ := H1.out w6 hb6
  clear v5 v13 t0 t1 t3 t4 t5 y0 y1 y3 y4 y5
  have s0 := F6.cell 0 (v := .bool true) rfl
  have s1 := F6.cell 1 (v := .bool false) rfl
  have s2 := F6.cell 2 (v := .bool false) rfl
  have s3 := F6.cell 3 (v := .int .i64 (t.id : Int)) rfl
  have s4 := F6.cell 4 (v := .int .i64 (t.level : Int)) rfl
  have s5 := F6.cell 5 (v := .int .i64 1) rfl
  have s6 := F6.cell 6 (v := .int .u64 (t.begin_ : Int)) rfl
  have s7 := F6.cell 7 (v := .int .u64 (t.end_ : Int)) rfl
  have s8 := F6.cell 8 (v := .int .i64 (t.ops : Int)) rfl
  have z5 := F6.frozen 5
  have f7 : Fix (fun _ => none) w6 w5.heap.size (.cells #[.bool true, .bool false, .bool false, .int .i64 (t.id : Int), .int .i64 (t.level : Int), .int .i64 1, .int .u64 (t.begin_ : Int), .int .u64 (t.end_ : Int), .int .i64 (t.ops : Int)] 38) := F6
  have hb7 : Below w0.heap.size w0 w6 := hb6
  have hb8 : Below w0.heap.size w0 w6 := hb7
  have HTH := Lib.hid (there_of (hb8.block w.heap.size HZ0.out.2.2 |>.trans HZ0.out.1))
  have hfin := heap_setCells9 (hb8.block w.heap.size HZ0.out.2.2 |>.trans HZ0.out.1) (.bool true) (.bool false) (.bool false) (.int .i64 (t.id : Int)) (.int .i64 (t.level : Int)) (.int .i64 1) (.int .u64 (t.begin_ : Int)) (.int .u64 (t.end_ : Int)) (.int .i64 (t.ops : Int))
  have HFN := Lib.hid hfin
  have HBL := Lib.hid (Below.setCells9 (HZ0.out.2.1.trans (hb8.mono (Nat.le_of_lt HZ0.out.2.2))) (Nat.le_refl _) (.bool true) (.bool false) (.bool false) (.int .i64 (t.id : Int)) (.int .i64 (t.level : Int)) (.int .i64 1) (.int .u64 (t.begin_ : Int)) (.int .u64 (t.end_ : Int)) (.int .i64 (t.ops : Int)))
  clear hfin
  clear hb8 F6 hb6 f7 hb7 hw6
  go_wp2_with (refine wpList_store_mid rfl 38 (.tmp 4) (.tmp 68) rfl w.heap.size 0 #[.bool true, .bool false, .bool false, .int .i64 (t.id : Int), .int .i64 (t.level : Int), .int .i64 1, .int .u64 (t.begin_ : Int), .int .u64 (t.end_ : Int), .int .i64 (t.ops : Int)] rfl rfl HTH.out (by kernel_rfl) (by simp [Value.oneCell']) ?_; generalize hws : World.setCells _ _ _ _ = ws)
  have hbut : Below w.heap.size w (w6.setCells w.heap.size 0 [.bool true, .bool false, .bool false, .int .i64 (t.id : Int), .int .i64 (t.level : Int), .int .i64 1, .int .u64 (t.begin_ : Int), .int .u64 (t.end_ : Int), .int .i64 (t.ops : Int)]) := HBL.out
  have hfin := HFN.out
  rw [show w6.setCells w.heap.size 0 [.bool true, .bool false, .bool false, .int .i64 (t.id : Int), .int .i64 (t.level : Int), .int .i64 1, .int .u64 (t.begin_ : Int), .int .u64 (t.end_ : Int), .int .i64 (t.ops : Int)] = ws from hws] at hbut hfin
  (try simp only [Exit.inBlock, Exit.then])
  refine bodyPost_ret (results_cell_row rfl _ _ w.heap.size 38 #[.bool true, .bool false, .bool false, .int .i64 (t.id : Int), .int .i64 (t.level : Int), .int .i64 1, .int .u64 (t.begin_ : Int), .int .u64 (t.end_ : Int), .int .i64 (t.ops : Int)] _ _ rfl hfin Tryz.underlying38 rfl (by kernel_rfl)) rfl ?_
  exact ⟨rfl, hbut⟩
end Go.Proofs.YtbefcdjcefmicaaGreat.Em

namespace Go.Proofs.YtbefcdjcefmicaaGreat.Em
open Go.ChangeShapes Go.WideShapes Go.ChangeAt Go.RowKit En
set_option linter.unusedVariables false
set_option linter.unusedSimpArgs false
set_option maxRecDepth 100000
set_option maxHeartbeats 1600000

theorem status_01 {A : Book} {σ : St} {w : World} (hL : Live A σ w) (s : Nat) (hs : s < 8) (t : Txn) (ht : σ.txns.getD s none = some t) (he : t.end_ = 0) (c : Cal) (hc : σ.calls.getD s none = some c) :
    Calls Tryz.prog 18 #[.pointer (some ⟨A.be, 0, none⟩), .int .i64 (s : Int)] w fun e w' => e = .returned (.agg #[.bool true, .bool true, .bool c.waits, .int .i64 (t.id : Int), .int .i64 (t.level : Int), .int .i64 1, .int .u64 (t.begin_ : Int), .int .u64 (t.end_ : Int), .int .i64 (t.ops : Int)]) ∧ Below w.heap.size w w' := by
  have hR := hL.rep
  have b1 : (s : Int) < 8 := by omega
  have b0 : (0 : Int) ≤ (s : Int) := by omega
  have hsok := Lib.hid (sessionOk s hs)
  have r1 := hR.alloc (.cells #[.bool false, .bool false, .bool false, .int .i64 0, .int .i64 0, .int .i64 0, .int .u64 0, .int .u64 0, .int .i64 0] 38)
  have H1 : Hid (∀ w', Below (w.alloc (.cells #[.bool false, .bool false, .bool false, .int .i64 0, .int .i64 0, .int .i64 0, .int .u64 0, .int .u64 0, .int .i64 0] 38)).heap.size (w.alloc (.cells #[.bool false, .bool false, .bool false, .int .i64 0, .int .i64 0, .int .i64 0, .int .u64 0, .int .u64 0, .int .i64 0] 38)) w' → w'.cell? ⟨A.be, 5 + s, none⟩ = some (.pointer (some ⟨A.bt s, 0, none⟩)) ∧ w'.cell? ⟨A.be, 13 + s, none⟩ = some (.pointer (some ⟨A.bc s, 0, none⟩)) ∧ w'.cell? ⟨A.bt s, 0, none⟩ = some (.int .i64 (t.id : Int)) ∧ w'.cell? ⟨A.bt s, 1, none⟩ = some (.int .i64 (t.level : Int)) ∧ w'.cell? ⟨A.bt s, 3, none⟩ = some (.int .u64 (t.begin_ : Int)) ∧ w'.cell? ⟨A.bt s, 4, none⟩ = some (.int .u64 (t.end_ : Int)) ∧ w'.cell? ⟨A.bt s, 5, none⟩ = some (.int .i64 (t.ops : Int)) ∧ w'.cell? ⟨A.bc s, 10, none⟩ = some (.bool c.waits)) := by
    intro w' hb
    have r := r1.below hb
    have h5 := r.eng (5 + s) (engCs_txn A σ hs)
    rw [show A.tp σ s = .pointer (some ⟨A.bt s, 0, none⟩) by unfold Book.tp; rw [ht]] at h5
    have h13 := r.eng (13 + s) (engCs_call A σ hs)
    rw [(hL.call s hs c hc).1, show ptr (A.bc s) = .pointer (some ⟨A.bc s, 0, none⟩) from rfl] at h13
    exact ⟨h5, h13, r.txn ht 0 rfl, r.txn ht 1 rfl, r.txn ht 3 rfl, r.txn ht 4 rfl, r.txn ht 5 rfl, r.call hc 10 rfl⟩
  obtain ⟨v5, v13, t0, t1, t3, t4, t5, c10⟩ := H1.out _ (Below.refl _ _)
  have fe1 : ((t.end_ : Int) == 0) = true := by first | (simp; done) | (simp; omega)
  have fe2 : ((t.end_ : Int) = 0) = True := by first | (simp; done) | (simp; omega)
  have fe3 : (t.end_ = 0) = True := by first | (simp; done) | (simp; omega)
  have fe4 : (t.end_ == 0) = true := by first | (simp; done) | (simp; omega)
  have fe5 : ((t.end_ : Int) != 0) = false := by first | (simp; done) | (simp; omega)
  have ff1 : decide ((0 : Int) < (t.end_ : Int)) = false := by first | (simp; done) | (simp; omega)
  have ff2 : ((0 : Int) < (t.end_ : Int)) = False := by first | (simp; done) | (simp; omega)
  have ff3 : (0 < t.end_) = False := by first | (simp; done) | (simp; omega)
  have ff4 : decide (0 < t.end_) = false := by first | (simp; done) | (simp; omega)
  clear hL hR hs ht r1 he
  go_enter Tryz.func18, Tryz.ntmps18
  go_wp2_with (go_at_call 48; refine (hsok.out _).mono ?_; rintro e w' ⟨rfl, rfl⟩)
  have HZ0 : Hid ((w.alloc (.cells #[.bool false, .bool false, .bool false, .int .i64 0, .int .i64 0, .int .i64 0, .int .u64 0, .int .u64 0, .int .i64 0] 38)).heap[w.heap.size]? = some (.cells #[.bool false, .bool false, .bool false, .int .i64 0, .int .i64 0, .int .i64 0, .int .u64 0, .int .u64 0, .int .i64 0] 38) ∧ Below w.heap.size w (w.alloc (.cells #[.bool false, .bool false, .bool false, .int .i64 0, .int .i64 0, .int .i64 0, .int .u64 0, .int .u64 0, .int .i64 0] 38)) ∧ w.heap.size < (w.alloc (.cells #[.bool false, .bool false, .bool false, .int .i64 0, .int .i64 0, .int .i64 0, .int .u64 0, .int .u64 0, .int .i64 0] 38)).heap.size) := ⟨heap_alloc_new w _, (Below.refl _ w).alloc (Nat.le_refl _) _, by simp⟩
  clear v5 v13 t0 t1 t3 t4 t5 c10
  generalize hw0 : w.alloc _ = w0 at *
  obtain ⟨v5, v13, t0, t1, t3, t4, t5, c10⟩ := H1.out w0 (Below.refl _ _)
  go_quiet (fail)
  clear v5 v13 t0 t1 t3 t4 t5 c10
  generalize hw5 : w0.drewN _ = w5
  have hb5 : Below w0.heap.size w0 w5 := by rw [← hw5]; exact ⟨rfl, rfl, rfl, Nat.le_refl _, fun _ _ => rfl⟩
  obtain ⟨v5, v13, t0, t1, t3, t4, t5, c10⟩ := H1.out w5 hb5
  obtain ⟨_, _, y0, y1, y3, y4, y5, y10⟩ := H1.out (w5.alloc (.cells #[.bool false, .bool false, .bool false, .int .i64 0, .int .i64 0, .int .i64 0, .int .u64 0, .int .u64 0, .int .i64 0] 38)) (hb5.alloc hb5.size _)
  go_wp2_with fail
  go_region
  generalize hw6 : World.drew _ = w6
  have F6 : Fix (fun _ => none) w6 w5.heap.size (.cells #[.bool true, .bool false, .bool false, .int .i64 (t.id : Int), .int .i64 (t.level : Int), .int .i64 1, .int .u64 (t.begin_ : Int), .int .u64 (t.end_ : Int), .int .i64 (t.ops : Int)] 38) := ⟨rfl, by rw [← hw6]; exact heap_alloc_new w5 _⟩
  have hb6 : Below w0.heap.size w0 w6 := by rw [← hw6]; exact (hb5.alloc hb5.size _).drew
  have hz6 : w5.heap.size < w6.heap.size := lt_of F6.2
  have HB6 := Lib.hid (And.intro hb6 (And.intro F6 hb5.size))
  obtain ⟨_, _, _, _, _, u4, _, _⟩ := H1.out w6 hb6
  clear v5 v13 t0 t1 t3 t4 t5 y0 y1 y3 y4 y5 c10 y10
  have s0 := F6.cell 0 (v := .bool true) rfl
  have s1 := F6.cell 1 (v := .bool false) rfl
  have s2 := F6.cell 2 (v := .bool false) rfl
  have s3 := F6.cell 3 (v := .int .i64 (t.id : Int)) rfl
  have s4 := F6.cell 4 (v := .int .i64 (t.level : Int)) rfl
  have s5 := F6.cell 5 (v := .int .i64 1) rfl
  have s6 := F6.cell 6 (v := .int .u64 (t.begin_ : Int)) rfl
  have s7 := F6.cell 7 (v := .int .u64 (t.end_ : Int)) rfl
  have s8 := F6.cell 8 (v := .int .i64 (t.ops : Int)) rfl
  have z5 := F6.frozen 5
  have f7 : Fix (fun _ => none) w6 w5.heap.size (.cells #[.bool true, .bool false, .bool false, .int .i64 (t.id : Int), .int .i64 (t.level : Int), .int .i64 1, .int .u64 (t.begin_ : Int), .int .u64 (t.end_ : Int), .int .i64 (t.ops : Int)] 38) := F6
  have hb7 : Below w0.heap.size w0 w6 := hb6
  obtain ⟨_, _, _, _, _, _, _, c10⟩ := H1.out w6 hb7
  have q0 := f7.cell 0 (v := .bool true) rfl
  have q1 := f7.cell 1 (v := .bool false) rfl
  have q2 := f7.cell 2 (v := .bool false) rfl
  have q3 := f7.cell 3 (v := .int .i64 (t.id : Int)) rfl
  have q4 := f7.cell 4 (v := .int .i64 (t.level : Int)) rfl
  have q5 := f7.cell 5 (v := .int .i64 1) rfl
  have q6 := f7.cell 6 (v := .int .u64 (t.begin_ : Int)) rfl
  have q7 := f7.cell 7 (v := .int .u64 (t.end_ : Int)) rfl
  have q8 := f7.cell 8 (v := .int .i64 (t.ops : Int)) rfl
  have q1z := f7.frozen 1
  have q2z := f7.frozen 2
  have H7 := Lib.hid (And.intro f7 hb7)
  clear F6 hb6 f7 hb7 hw6
  go_wp2_with fail
  generalize hw7 : w6 = w7 at *
  clear s0 s1 s2 s3 s4 s5 s6 s7 s8 z5
  go_region
  generalize hw8 : World.drew _ = w8
  have f8 : Fix (fun _ => none) w8 w5.heap.size (.cells #[.bool true, .bool true, .bool c.waits, .int .i64 (t.id : Int), .int .i64 (t.level : Int), .int .i64 1, .int .u64 (t.begin_ : Int), .int .u64 (t.end_ : Int), .int .i64 (t.ops : Int)] 38) := ⟨rfl, by rw [← hw8]; have h := heap_setCell_same (heap_setCell_same H7.out.1.2 1 (.bool true)) 2 (.bool c.waits); show ((w7.setCell ⟨_, 1, none⟩ _).setCell ⟨_, 2, none⟩ _).heap[_]? = _; simpa using h⟩
  have hb8 : Below w0.heap.size w0 w8 := by rw [← hw8]; exact ((H7.out.2.setCell HB6.out.2.2 _).setCell HB6.out.2.2 _).drew
  clear q0 q1 q2 q3 q4 q5 q6 q7 q8 q1z q2z c10
  have r0 := f8.cell 0 (v := .bool true) rfl
  have r1 := f8.cell 1 (v := .bool true) rfl
  have r2 := f8.cell 2 (v := .bool c.waits) rfl
  have r3 := f8.cell 3 (v := .int .i64 (t.id : Int)) rfl
  have r4 := f8.cell 4 (v := .int .i64 (t.level : Int)) rfl
  have r5 := f8.cell 5 (v := .int .i64 1) rfl
  have r6 := f8.cell 6 (v := .int .u64 (t.begin_ : Int)) rfl
  have r7 := f8.cell 7 (v := .int .u64 (t.end_ : Int)) rfl
  have r8 := f8.cell 8 (v := .int .i64 (t.ops : Int)) rfl
  have HTH := Lib.hid (there_of (hb8.block w.heap.size HZ0.out.2.2 |>.trans HZ0.out.1))
  have hfin := heap_setCells9 (hb8.block w.heap.size HZ0.out.2.2 |>.trans HZ0.out.1) (.bool true) (.bool true) (.bool c.waits) (.int .i64 (t.id : Int)) (.int .i64 (t.level : Int)) (.int .i64 1) (.int .u64 (t.begin_ : Int)) (.int .u64 (t.end_ : Int)) (.int .i64 (t.ops : Int))
  have HFN := Lib.hid hfin
  have HBL := Lib.hid (Below.setCells9 (HZ0.out.2.1.trans (hb8.mono (Nat.le_of_lt HZ0.out.2.2))) (Nat.le_refl _) (.bool true) (.bool true) (.bool c.waits) (.int .i64 (t.id : Int)) (.int .i64 (t.level : Int)) (.int .i64 1) (.int .u64 (t.begin_ : Int)) (.int .u64 (t.end_ : Int)) (.int .i64 (t.ops : Int)))
  clear hfin
  clear hb8 hw8 f8
  go_wp2_with (refine wpList_store_mid rfl 38 (.tmp 4) (.tmp 68) rfl w.heap.size 0 #[.bool true, .bool true, .bool c.waits, .int .i64 (t.id : Int), .int .i64 (t.level : Int), .int .i64 1, .int .u64 (t.begin_ : Int), .int .u64 (t.end_ : Int), .int .i64 (t.ops : Int)] rfl rfl HTH.out (by kernel_rfl) (by simp [Value.oneCell']) ?_; generalize hws : World.setCells _ _ _ _ = ws)
  have hbut : Below w.heap.size w (w8.setCells w.heap.size 0 [.bool true, .bool true, .bool c.waits, .int .i64 (t.id : Int), .int .i64 (t.level : Int), .int .i64 1, .int .u64 (t.begin_ : Int), .int .u64 (t.end_ : Int), .int .i64 (t.ops : Int)]) := HBL.out
  have hfin := HFN.out
  rw [show w8.setCells w.heap.size 0 [.bool true, .bool true, .bool c.waits, .int .i64 (t.id : Int), .int .i64 (t.level : Int), .int .i64 1, .int .u64 (t.begin_ : Int), .int .u64 (t.end_ : Int), .int .i64 (t.ops : Int)] = ws from hws] at hbut hfin
  (try simp only [Exit.inBlock, Exit.then])
  refine bodyPost_ret (results_cell_row rfl _ _ w.heap.size 38 #[.bool true, .bool true, .bool c.waits, .int .i64 (t.id : Int), .int .i64 (t.level : Int), .int .i64 1, .int .u64 (t.begin_ : Int), .int .u64 (t.end_ : Int), .int .i64 (t.ops : Int)] _ _ rfl hfin Tryz.underlying38 rfl (by kernel_rfl)) rfl ?_
  exact ⟨rfl, hbut⟩
end Go.Proofs.YtbefcdjcefmicaaGreat.Em

namespace Go.Proofs.YtbefcdjcefmicaaGreat.Em
open Go.ChangeShapes Go.WideShapes Go.ChangeAt Go.RowKit En
set_option linter.unusedVariables false
set_option linter.unusedSimpArgs false
set_option maxRecDepth 100000
set_option maxHeartbeats 1600000

theorem status_10 {A : Book} {σ : St} {w : World} (hL : Live A σ w) (s : Nat) (hs : s < 8) (t : Txn) (ht : σ.txns.getD s none = some t) (he : 0 < t.end_) (hc : σ.calls.getD s none = none) :
    Calls Tryz.prog 18 #[.pointer (some ⟨A.be, 0, none⟩), .int .i64 (s : Int)] w fun e w' => e = .returned (.agg #[.bool true, .bool false, .bool false, .int .i64 (t.id : Int), .int .i64 (t.level : Int), .int .i64 2, .int .u64 (t.begin_ : Int), .int .u64 (t.end_ : Int), .int .i64 (t.ops : Int)]) ∧ Below w.heap.size w w' := by
  have hR := hL.rep
  have b1 : (s : Int) < 8 := by omega
  have b0 : (0 : Int) ≤ (s : Int) := by omega
  have hsok := Lib.hid (sessionOk s hs)
  have r1 := hR.alloc (.cells #[.bool false, .bool false, .bool false, .int .i64 0, .int .i64 0, .int .i64 0, .int .u64 0, .int .u64 0, .int .i64 0] 38)
  have H1 : Hid (∀ w', Below (w.alloc (.cells #[.bool false, .bool false, .bool false, .int .i64 0, .int .i64 0, .int .i64 0, .int .u64 0, .int .u64 0, .int .i64 0] 38)).heap.size (w.alloc (.cells #[.bool false, .bool false, .bool false, .int .i64 0, .int .i64 0, .int .i64 0, .int .u64 0, .int .u64 0, .int .i64 0] 38)) w' → w'.cell? ⟨A.be, 5 + s, none⟩ = some (.pointer (some ⟨A.bt s, 0, none⟩)) ∧ w'.cell? ⟨A.be, 13 + s, none⟩ = some (.pointer none) ∧ w'.cell? ⟨A.bt s, 0, none⟩ = some (.int .i64 (t.id : Int)) ∧ w'.cell? ⟨A.bt s, 1, none⟩ = some (.int .i64 (t.level : Int)) ∧ w'.cell? ⟨A.bt s, 3, none⟩ = some (.int .u64 (t.begin_ : Int)) ∧ w'.cell? ⟨A.bt s, 4, none⟩ = some (.int .u64 (t.end_ : Int)) ∧ w'.cell? ⟨A.bt s, 5, none⟩ = some (.int .i64 (t.ops : Int))) := by
    intro w' hb
    have r := r1.below hb
    have h5 := r.eng (5 + s) (engCs_txn A σ hs)
    rw [show A.tp σ s = .pointer (some ⟨A.bt s, 0, none⟩) by unfold Book.tp; rw [ht]] at h5
    have h13 := r.eng (13 + s) (engCs_call A σ hs)
    rw [hL.idle s hs hc] at h13
    exact ⟨h5, h13, r.txn ht 0 rfl, r.txn ht 1 rfl, r.txn ht 3 rfl, r.txn ht 4 rfl, r.txn ht 5 rfl⟩
  obtain ⟨v5, v13, t0, t1, t3, t4, t5⟩ := H1.out _ (Below.refl _ _)
  have fe1 : ((t.end_ : Int) == 0) = false := by first | (simp; done) | (simp; omega)
  have fe2 : ((t.end_ : Int) = 0) = False := by first | (simp; done) | (simp; omega)
  have fe3 : (t.end_ = 0) = False := by first | (simp; done) | (simp; omega)
  have fe4 : (t.end_ == 0) = false := by first | (simp; done) | (simp; omega)
  have fe5 : ((t.end_ : Int) != 0) = true := by first | (simp; done) | (simp; omega)
  have ff1 : decide ((0 : Int) < (t.end_ : Int)) = true := by first | (simp; done) | (simp; omega)
  have ff2 : ((0 : Int) < (t.end_ : Int)) = True := by first | (simp; done) | (simp; omega)
  have ff3 : (0 < t.end_) = True := by first | (simp; done) | (simp; omega)
  have ff4 : decide (0 < t.end_) = true := by first | (simp; done) | (simp; omega)
  clear hL hR hs ht r1 he
  go_enter Tryz.func18, Tryz.ntmps18
  go_wp2_with (go_at_call 48; refine (hsok.out _).mono ?_; rintro e w' ⟨rfl, rfl⟩)
  have HZ0 : Hid ((w.alloc (.cells #[.bool false, .bool false, .bool false, .int .i64 0, .int .i64 0, .int .i64 0, .int .u64 0, .int .u64 0, .int .i64 0] 38)).heap[w.heap.size]? = some (.cells #[.bool false, .bool false, .bool false, .int .i64 0, .int .i64 0, .int .i64 0, .int .u64 0, .int .u64 0, .int .i64 0] 38) ∧ Below w.heap.size w (w.alloc (.cells #[.bool false, .bool false, .bool false, .int .i64 0, .int .i64 0, .int .i64 0, .int .u64 0, .int .u64 0, .int .i64 0] 38)) ∧ w.heap.size < (w.alloc (.cells #[.bool false, .bool false, .bool false, .int .i64 0, .int .i64 0, .int .i64 0, .int .u64 0, .int .u64 0, .int .i64 0] 38)).heap.size) := ⟨heap_alloc_new w _, (Below.refl _ w).alloc (Nat.le_refl _) _, by simp⟩
  clear v5 v13 t0 t1 t3 t4 t5
  generalize hw0 : w.alloc _ = w0 at *
  obtain ⟨v5, v13, t0, t1, t3, t4, t5⟩ := H1.out w0 (Below.refl _ _)
  go_quiet (fail)
  clear v5 v13 t0 t1 t3 t4 t5
  generalize hw5 : w0.drewN _ = w5
  have hb5 : Below w0.heap.size w0 w5 := by rw [← hw5]; exact ⟨rfl, rfl, rfl, Nat.le_refl _, fun _ _ => rfl⟩
  obtain ⟨v5, v13, t0, t1, t3, t4, t5⟩ := H1.out w5 hb5
  obtain ⟨_, _, y0, y1, y3, y4, y5⟩ := H1.out (w5.alloc (.cells #[.bool false, .bool false, .bool false, .int .i64 0, .int .i64 0, .int .i64 0, .int .u64 0, .int .u64 0, .int .i64 0] 38)) (hb5.alloc hb5.size _)
  go_wp2_with fail
  go_region
  generalize hw6 : World.drew _ = w6
  have F6 : Fix (fun _ => none) w6 w5.heap.size (.cells #[.bool true, .bool false, .bool false, .int .i64 (t.id : Int), .int .i64 (t.level : Int), .int .i64 1, .int .u64 (t.begin_ : Int), .int .u64 (t.end_ : Int), .int .i64 (t.ops : Int)] 38) := ⟨rfl, by rw [← hw6]; exact heap_alloc_new w5 _⟩
  have hb6 : Below w0.heap.size w0 w6 := by rw [← hw6]; exact (hb5.alloc hb5.size _).drew
  have hz6 : w5.heap.size < w6.heap.size := lt_of F6.2
  have HB6 := Lib.hid (And.intro hb6 (And.intro F6 hb5.size))
  obtain ⟨_, _, _, _, _, u4, _⟩ := H1.out w6 hb6
  clear v5 v13 t0 t1 t3 t4 t5 y0 y1 y3 y4 y5
  have s0 := F6.cell 0 (v := .bool true) rfl
  have s1 := F6.cell 1 (v := .bool false) rfl
  have s2 := F6.cell 2 (v := .bool false) rfl
  have s3 := F6.cell 3 (v := .int .i64 (t.id : Int)) rfl
  have s4 := F6.cell 4 (v := .int .i64 (t.level : Int)) rfl
  have s5 := F6.cell 5 (v := .int .i64 1) rfl
  have s6 := F6.cell 6 (v := .int .u64 (t.begin_ : Int)) rfl
  have s7 := F6.cell 7 (v := .int .u64 (t.end_ : Int)) rfl
  have s8 := F6.cell 8 (v := .int .i64 (t.ops : Int)) rfl
  have z5 := F6.frozen 5
  have f7 : Fix (fun _ => none) (w6.setCell ⟨w5.heap.size, 5, none⟩ (.int .i64 2)) w5.heap.size (.cells #[.bool true, .bool false, .bool false, .int .i64 (t.id : Int), .int .i64 (t.level : Int), .int .i64 2, .int .u64 (t.begin_ : Int), .int .u64 (t.end_ : Int), .int .i64 (t.ops : Int)] 38) := ⟨rfl, by have h := heap_setCell_same F6.2 5 (.int .i64 2); simpa using h⟩
  have hb7 : Below w0.heap.size w0 (w6.setCell ⟨w5.heap.size, 5, none⟩ (.int .i64 2)) := hb6.setCell (HB6.out.2.2) _
  have hb8 : Below w0.heap.size w0 (w6.setCell ⟨w5.heap.size, 5, none⟩ (.int .i64 2)) := hb7
  have HTH := Lib.hid (there_of (hb8.block w.heap.size HZ0.out.2.2 |>.trans HZ0.out.1))
  have hfin := heap_setCells9 (hb8.block w.heap.size HZ0.out.2.2 |>.trans HZ0.out.1) (.bool true) (.bool false) (.bool false) (.int .i64 (t.id : Int)) (.int .i64 (t.level : Int)) (.int .i64 2) (.int .u64 (t.begin_ : Int)) (.int .u64 (t.end_ : Int)) (.int .i64 (t.ops : Int))
  have HFN := Lib.hid hfin
  have HBL := Lib.hid (Below.setCells9 (HZ0.out.2.1.trans (hb8.mono (Nat.le_of_lt HZ0.out.2.2))) (Nat.le_refl _) (.bool true) (.bool false) (.bool false) (.int .i64 (t.id : Int)) (.int .i64 (t.level : Int)) (.int .i64 2) (.int .u64 (t.begin_ : Int)) (.int .u64 (t.end_ : Int)) (.int .i64 (t.ops : Int)))
  clear hfin
  clear hb8 F6 hb6 f7 hb7 hw6
  go_wp2_with (refine wpList_store_mid rfl 38 (.tmp 4) (.tmp 68) rfl w.heap.size 0 #[.bool true, .bool false, .bool false, .int .i64 (t.id : Int), .int .i64 (t.level : Int), .int .i64 2, .int .u64 (t.begin_ : Int), .int .u64 (t.end_ : Int), .int .i64 (t.ops : Int)] rfl rfl HTH.out (by kernel_rfl) (by simp [Value.oneCell']) ?_; generalize hws : World.setCells _ _ _ _ = ws)
  have hbut : Below w.heap.size w ((w6.setCell ⟨w5.heap.size, 5, none⟩ (.int .i64 2)).setCells w.heap.size 0 [.bool true, .bool false, .bool false, .int .i64 (t.id : Int), .int .i64 (t.level : Int), .int .i64 2, .int .u64 (t.begin_ : Int), .int .u64 (t.end_ : Int), .int .i64 (t.ops : Int)]) := HBL.out
  have hfin := HFN.out
  rw [show (w6.setCell ⟨w5.heap.size, 5, none⟩ (.int .i64 2)).setCells w.heap.size 0 [.bool true, .bool false, .bool false, .int .i64 (t.id : Int), .int .i64 (t.level : Int), .int .i64 2, .int .u64 (t.begin_ : Int), .int .u64 (t.end_ : Int), .int .i64 (t.ops : Int)] = ws from hws] at hbut hfin
  (try simp only [Exit.inBlock, Exit.then])
  refine bodyPost_ret (results_cell_row rfl _ _ w.heap.size 38 #[.bool true, .bool false, .bool false, .int .i64 (t.id : Int), .int .i64 (t.level : Int), .int .i64 2, .int .u64 (t.begin_ : Int), .int .u64 (t.end_ : Int), .int .i64 (t.ops : Int)] _ _ rfl hfin Tryz.underlying38 rfl (by kernel_rfl)) rfl ?_
  exact ⟨rfl, hbut⟩
end Go.Proofs.YtbefcdjcefmicaaGreat.Em
