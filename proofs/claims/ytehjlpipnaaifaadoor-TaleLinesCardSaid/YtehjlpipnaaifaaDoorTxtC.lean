/- A line of a tale: of any event whose numbers are below 100. -/
import Derived.Test.YtehjlpipnaaifaaDoorTxtB
namespace Go.Proofs.YtehjlpipnaaifaaDoor.Tl
open Go.ChangeShapes Go.WideShapes Go.ChangeAt Go.RowKit
set_option linter.unusedVariables false
set_option linter.unusedSimpArgs false
set_option maxRecDepth 100000
set_option maxHeartbeats 1000000

def kwL : List (List UInt8) := [[], [98, 101, 103, 105, 110], [111, 112], [112, 114, 101, 112], [98, 111, 110, 100], [100, 111, 110, 101], [103, 111, 110, 101]]
def kw (k : Nat) : List UInt8 := kwL.getD k []
def namesC : Array Value := #[.string ⟨#[]⟩, .string ⟨#[98, 101, 103, 105, 110]⟩, .string ⟨#[111, 112]⟩, .string ⟨#[112, 114, 101, 112]⟩, .string ⟨#[98, 111, 110, 100]⟩, .string ⟨#[100, 111, 110, 101]⟩, .string ⟨#[103, 111, 110, 101]⟩]
theorem names_any (w : World) : Calls Tryd.prog 23 #[] w fun e w' => e = .returned (.agg namesC) ∧ Below w.heap.size w w' := by
  go_enter Tryd.func23, Tryd.ntmps23
  go_wp2
  exact bodyPost_ret (v := .agg namesC) (by simp [results, Tryd.results23, go_sem, namesC]) rfl ⟨rfl, (Below.refl _ _).alloc (Nat.le_refl _) _⟩

/-- An event's numbers are below 100. -/
structure Sm (e : Er) : Prop where
  k : 0 ≤ e.k ∧ e.k < 100
  t : 0 ≤ e.t ∧ e.t < 100
  n : e.n < 100
  o1 : 0 ≤ e.o1 ∧ e.o1 < 100
  o2 : 0 ≤ e.o2 ∧ e.o2 < 100
  o3 : 0 ≤ e.o3 ∧ e.o3 < 100
  o4 : 0 ≤ e.o4 ∧ e.o4 < 100
  re : 0 ≤ e.re ∧ e.re < 100
  rv : 0 ≤ e.rv ∧ e.rv < 100
  rr : 0 ≤ e.rr ∧ e.rr < 100
/-- Pairs that lie in memory, each number below 100. -/
def Prs (w : World) (e : Er) (ps : List (Int × Int)) : Prop :=
  ps.length = e.pl ∧ e.pl ≤ e.pc ∧ e.pc ≤ 9223372036854775807 ∧ e.pl < 1000 ∧ (∀ p, p ∈ ps → (0 ≤ p.1 ∧ p.1 < 100) ∧ (0 ≤ p.2 ∧ p.2 < 100)) ∧
    (e.pl = 0 ∨ ∃ g off, e.pa = some ⟨g, off, none⟩ ∧ g < w.heap.size ∧ ∀ i p, ps[i]? = some p → w.cell? ⟨g, off + i * 2, none⟩ = some (.int .i64 p.1) ∧ w.cell? ⟨g, off + i * 2 + 1, none⟩ = some (.int .i64 p.2))
theorem Prs.below {w w1 : World} {e : Er} {ps : List (Int × Int)} (h : Prs w e ps) (hb : Below w.heap.size w w1) : Prs w1 e ps := by
  obtain ⟨h1, h2, h3, h4, h5, h6⟩ := h
  refine ⟨h1, h2, h3, h4, h5, ?_⟩
  rcases h6 with h6 | ⟨g, off, e1, e2, e3⟩
  · exact .inl h6
  · exact .inr ⟨g, off, e1, Nat.lt_of_lt_of_le e2 hb.size, fun i p hp => by
      rw [hb.cell (p := ⟨g, off + i * 2, none⟩) e2, hb.cell (p := ⟨g, off + i * 2 + 1, none⟩) e2]
      exact e3 i p hp⟩
def wordsOf (e : Er) (ps : List (Int × Int)) : List (List UInt8) :=
  [kw e.k.toNat, dd e.t] ++ (if e.k = 1 then [dd e.n, dd e.o4] else if e.k = 2 then [dd e.o1, dd e.o2, dd e.o3, dd e.o4, dd e.re, dd e.rv] ++ ps.map (fun p => dd p.1 ++ [61] ++ dd p.2) else if e.k = 3 then [dd e.n] else if e.k = 4 then [dd e.n] else if e.k = 6 then [dd e.rr] else [])
def lineOf (e : Er) (ps : List (Int × Int)) : List UInt8 := Lib.join (wordsOf e ps) [32] ++ [10]

theorem names_at (κ : Nat) (h : κ < 7) : namesC[κ]? = some (sv (kw κ)) := by
  have : κ = 0 ∨ κ = 1 ∨ κ = 2 ∨ κ = 3 ∨ κ = 4 ∨ κ = 5 ∨ κ = 6 := by omega
  rcases this with rfl | rfl | rfl | rfl | rfl | rfl | rfl <;> rfl
theorem wds_new (W : World) (base : Nat) (hb : base ≤ W.heap.size) (ss : List (List UInt8)) (n : Nat) (hn : ss.length = n) (hm : n ≤ 1000) (D : World) (hD : D.heap = ((W.alloc (.cells (strs ss).toArray 9)).alloc (.cells #[.slice (some ⟨W.heap.size, 0, none⟩) n n] 81)).heap) : Wds base (W.heap.size + 1) D ss := by
  subst hn
  refine ⟨by omega, .slice (some ⟨W.heap.size, 0, none⟩) ss.length ss.length, ?_, by simp [strs], .inr ⟨W.heap.size, ss.length, (strs ss).toArray, rfl, hb, ?_, Nat.le_refl _, by unfold maxLen; omega, by simp [strs], by simp [strs, List.take_of_length_le]⟩⟩
  · rw [hD]
    have := heap_alloc_new (W.alloc (.cells (strs ss).toArray 9)) (.cells #[.slice (some ⟨W.heap.size, 0, none⟩) ss.length ss.length] 81)
    simpa using this
  · rw [hD, heap_alloc_old _ _ (by simp), heap_alloc_new]
theorem wds_new2 (W : World) (base : Nat) (hb : base ≤ W.heap.size) (ss : List (List UInt8)) (n : Nat) (hn : ss.length = n) (hm : n ≤ 1000) (D : World) (hD : D.heap = ((W.alloc (.cells #[.slice (some ⟨W.heap.size + 1, 0, none⟩) n n] 81)).alloc (.cells (strs ss).toArray 9)).heap) : Wds base W.heap.size D ss := by
  subst hn
  refine ⟨hb, .slice (some ⟨W.heap.size + 1, 0, none⟩) ss.length ss.length, ?_, by simp [strs], .inr ⟨W.heap.size + 1, ss.length, (strs ss).toArray, rfl, by omega, ?_, Nat.le_refl _, by unfold maxLen; omega, by simp [strs], by simp [strs, List.take_of_length_le]⟩⟩
  · rw [hD, heap_alloc_old _ _ (by simp), heap_alloc_new]
  · rw [hD]
    have := heap_alloc_new (W.alloc (.cells #[.slice (some ⟨W.heap.size + 1, 0, none⟩) ss.length ss.length] 81)) (.cells (strs ss).toArray 9)
    simpa using this
theorem join_any {base B : Nat} {W : World} {ss : List (List UInt8)} (h : Wds base B W ss) (hne : 0 < ss.length) (hl : ss.length ≤ 100000) (hj : (Lib.join ss [32]).length ≤ 140737488355328) {a : Option Addr} {cap : Nat} (hc : W.cell? ⟨B, 0, none⟩ = some (.slice a ss.length cap)) :
    Calls Tryd.prog 27 #[.slice a ss.length cap, .string ⟨#[32]⟩] W fun x w' => x = .returned (sv (Lib.join ss [32])) ∧ Below W.heap.size W w' := by
  obtain ⟨v, ls, hu⟩ := h.ls
  rw [cell_of_row W B 0 _ _ _ ls] at hc
  obtain rfl : v = .slice a ss.length cap := by simpa using hc
  rcases hu.2 with ⟨h0, hn⟩ | ⟨g, cap', cur, h1, h2, h3, h4, h5, h6, h7⟩
  · omega
  · cases h1
    have e : (ss.map fun l => (⟨l.toArray⟩ : ByteArray)).map (·.data.toList) = ss := by
      rw [List.map_map]; exact (List.map_congr_left (fun l _ => rfl)).trans (List.map_id ss)
    have := Tryd.strings_Join g 0 cap (ss.map fun l => ⟨l.toArray⟩) ⟨#[32]⟩ W (fun j x hx => ?_) (lt_of h3) (by simp; omega) (by simpa using h4) (by rw [e]; exact hj)
    · rw [e, List.length_map] at this
      exact this
    · have hj : j < ss.length := by have := (List.getElem?_eq_some_iff.1 hx).1; simpa using this
      rw [Nat.zero_add, hu.cellAt j (by omega)]
      simp only [strs, sv, List.getElem?_map] at hx ⊢
      cases hs : ss[j]? with
      | none => rw [hs] at hx; cases hx
      | some y => rw [hs] at hx; simp at hx; subst hx; rfl
theorem dd_len (x : Int) (h0 : 0 ≤ x) (h1 : x < 100) : (dd x).length ≤ 2 := by
  unfold dd
  have h : x.toNat < 100 := by omega
  generalize x.toNat = n at h
  rw [Lib.decDigits]
  split
  · simp
  · rw [Lib.decDigits]
    split
    · simp
    · omega
theorem join_len : ∀ (ss : List (List UInt8)), (∀ s, s ∈ ss → s.length ≤ 10) → (Lib.join ss [32]).length ≤ ss.length * 11 := by
  intro ss
  cases ss with
  | nil => intro _; simp [Lib.join_nil]
  | cons x r =>
    intro h
    rw [Lib.join_cons, List.length_append]
    have hx := h x (by simp)
    have : (Lib.joinTail [32] r).length ≤ r.length * 11 := by
      have hr : ∀ s, s ∈ r → s.length ≤ 10 := fun s hs => h s (by simp [hs])
      clear h hx
      unfold Lib.joinTail
      induction r with
      | nil => simp
      | cons y r ih =>
        have hy := hr y (by simp)
        have := ih (fun s hs => hr s (by simp [hs]))
        simp only [List.map_cons, List.flatten_cons, List.length_append, List.length_cons, List.length_nil] at *
        omega
    simp only [List.length_cons]
    omega
theorem kw_len (k : Nat) : (kw k).length ≤ 5 := by
  unfold kw
  rcases Nat.lt_or_ge k 7 with h | h
  · have : k = 0 ∨ k = 1 ∨ k = 2 ∨ k = 3 ∨ k = 4 ∨ k = 5 ∨ k = 6 := by omega
    rcases this with rfl | rfl | rfl | rfl | rfl | rfl | rfl <;> decide
  · rw [List.getD_eq_getElem?_getD, List.getElem?_eq_none (by simpa [kwL] using h)]; simp
theorem words_len {w : World} {e : Er} {ps : List (Int × Int)} (hs : Sm e) (hp : Prs w e ps) : (∀ s, s ∈ wordsOf e ps → s.length ≤ 10) ∧ (wordsOf e ps).length ≤ 2000 ∧ 0 < (wordsOf e ps).length := by
  have hn := dd_len (e.n : Int) (by omega) (by have := hs.n; omega)
  have ht := dd_len _ hs.t.1 hs.t.2
  have h1 := dd_len _ hs.o1.1 hs.o1.2
  have h2 := dd_len _ hs.o2.1 hs.o2.2
  have h3 := dd_len _ hs.o3.1 hs.o3.2
  have h4 := dd_len _ hs.o4.1 hs.o4.2
  have h5 := dd_len _ hs.re.1 hs.re.2
  have h6 := dd_len _ hs.rv.1 hs.rv.2
  have h7 := dd_len _ hs.rr.1 hs.rr.2
  have hk := kw_len e.k.toNat
  obtain ⟨q1, q2, q3, q4, q5, _⟩ := hp
  have hpp : ∀ s, s ∈ ps.map (fun p => dd p.1 ++ [61] ++ dd p.2) → s.length ≤ 10 := by
    intro s hs
    obtain ⟨p, hpm, rfl⟩ := List.mem_map.1 hs
    have a := dd_len _ (q5 p hpm).1.1 (q5 p hpm).1.2
    have b := dd_len _ (q5 p hpm).2.1 (q5 p hpm).2.2
    simp; omega
  unfold wordsOf
  refine ⟨fun s hsm => ?_, ?_, by simp⟩
  · rcases List.mem_append.1 hsm with hsm | hsm
    · simp at hsm
      rcases hsm with rfl | rfl <;> omega
    · split at hsm
      · simp at hsm
        rcases hsm with rfl | rfl <;> omega
      · split at hsm
        · rcases List.mem_append.1 hsm with hsm | hsm
          · simp at hsm
            rcases hsm with rfl | rfl | rfl | rfl | rfl | rfl <;> omega
          · exact hpp s hsm
        · split at hsm
          · simp at hsm; subst hsm; omega
          · split at hsm
            · simp at hsm; subst hsm; omega
            · split at hsm
              · simp at hsm; subst hsm; omega
              · cases hsm
  · split
    · simp
    · split
      · simp; omega
      · split
        · simp
        · split
          · simp
          · split <;> simp
theorem bcat (a : List UInt8) (b : UInt8) : Value.string ((⟨a.toArray⟩ : ByteArray) ++ ⟨#[b]⟩) = .string ⟨(a ++ [b]).toArray⟩ := by
  congr 1
  first | done | (apply ByteArray.ext; simp)
theorem bcat2 (a b : List UInt8) : Value.string ((⟨a.toArray⟩ : ByteArray) ++ ⟨b.toArray⟩) = .string ⟨(a ++ b).toArray⟩ := by
  congr 1
  first | done | (apply ByteArray.ext; simp)
theorem bcat3 (a b : List UInt8) : Value.string ((⟨a.toArray⟩ : ByteArray) ++ ⟨#[61]⟩ ++ ⟨b.toArray⟩) = .string ⟨(a ++ [61] ++ b).toArray⟩ := by
  congr 1
  first | done | (apply ByteArray.ext; simp)
theorem row_new2 (w : World) (u : Value) (t : TypeId) (W : World) (g : Nat) (hg : g = w.heap.size) (h : W.heap = (w.alloc (.cells #[u] t)).heap) : Ow.Row W 0 1 (.slice (some ⟨g, 0, none⟩) 1 1) [u] := by
  subst hg; exact row_new w u t W h
theorem Wds.alloc {base B : Nat} {w : World} {ss : List (List UInt8)} (h : Wds base B w ss) (o : Obj) : Wds base B (w.alloc o) ss := by
  obtain ⟨hb, v, h1, h2⟩ := h
  exact ⟨hb, v, by rw [heap_alloc_old _ _ (lt_of h1)]; exact h1, h2.alloc o⟩
theorem KeptT.alloc {a b : World} (h : KeptT a b) (o : Obj) : KeptT a (b.alloc o) := fun i cs t f q1 q2 q3 => by
  have := h i cs t f q1 q2 q3
  rw [heap_alloc_old _ _ (lt_of this)]; exact this
theorem put_at {base B : Nat} {W : World} {ss : List (List UInt8)} (h : Wds base B W ss) (hbase : base ≤ W.heap.size) (ns : List Int) (n : Nat) (hn : ns.length = n) (hsm : ∀ x, x ∈ ns → 0 ≤ x ∧ x < 100) (hlen : ss.length + n < 100000) (cs : Array Value) (hcs : cs = (ns.map (Value.int .i64)).toArray) :
    Calls Tryd.prog 25 #[.slice (some ⟨W.heap.size, 0, none⟩) n n, .pointer (some ⟨B, 0, none⟩)] (W.alloc (.cells cs 3)) fun e w' => e = .returned (.tuple #[]) ∧ Wds base B w' (ss ++ ns.map dd) ∧ Below base W w' ∧ KeptT W w' := by
  subst hcs
  refine (put_any (h.alloc _) (by simp; omega) W.heap.size 0 n n ns hn (Nat.le_refl _) (by omega) (heap_alloc_new _ _) (fun i x hx => ?_) hsm hlen).mono ?_
  · rw [Nat.zero_add, World.cell?_alloc_at _ _ _ _ rfl]
    simp [hx]
  · rintro e w' ⟨h1, h2, h3, h4⟩
    exact ⟨h1, h2, ((Below.refl _ _).alloc hbase _).trans h3, ((KeptT.refl W).alloc _).trans h4⟩
end Go.Proofs.YtehjlpipnaaifaaDoor.Tl
