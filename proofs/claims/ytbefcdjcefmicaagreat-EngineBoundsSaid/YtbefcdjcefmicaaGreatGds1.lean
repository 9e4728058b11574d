/- Texts of this claim, laid together: Sr, Lt, Wd, Wb, Wi. -/
import Derived.Test.YtbefcdjcefmicaaGreatBase21
import Derived.Test.YtbefcdjcefmicaaGreatBase15
import Derived.Test.YtbefcdjcefmicaaGreatBase20
import Derived.Test.YtbefcdjcefmicaaGreatBase18
namespace Go.Proofs.YtbefcdjcefmicaaGreat.Em
open Go.ChangeShapes Go.WideShapes Go.ChangeAt Go.RowKit En
set_option linter.unusedVariables false
set_option linter.unusedSimpArgs false
set_option maxRecDepth 100000
set_option maxHeartbeats 1600000

theorem same_result (e v x y : Int) (a1 a2 : Option Addr) (n c1 c2 : Nat) (ps : List (Nat × Nat)) (w : World) (h1 : Ow.Row w 0 2 (.slice a1 n c1) (pairCs ps)) (h2 : Ow.Row w 0 2 (.slice a2 n c2) (pairCs ps)) :
    Calls Tryz.prog 24 #[.agg #[.int .i64 e, .int .i64 v, .slice a1 n c1, .int .i64 x, .int .i64 y], .agg #[.int .i64 e, .int .i64 v, .slice a2 n c2, .int .i64 x, .int .i64 y]] w fun e w' => e = .returned (.bool true) ∧ Below w.heap.size w w' := by
  have H1 := Lib.hid h1
  have H2 := Lib.hid h2
  clear h1 h2
  go_enter Tryz.func24, Tryz.ntmps24
  go_wp2_with (go_at_call 46; refine (same_pairs _ _ ps _ _ _ (Row.alloc' (Row.alloc' H1.out _) _) (Row.alloc' (Row.alloc' H2.out _) _)).mono ?_; rintro e w9 ⟨rfl, q⟩; have HB := Lib.hid q; clear q)
  go_ret
  refine ⟨rfl, ?_⟩
  have hb := HB.out
  have h2 : Below w.heap.size w ((w.alloc (.cells #[.int .i64 e, .int .i64 v, .slice a1 n c1, .int .i64 x, .int .i64 y] 42)).alloc (.cells #[.int .i64 e, .int .i64 v, .slice a2 n c2, .int .i64 x, .int .i64 y] 42)) := (((Below.refl _ _).alloc (Nat.le_refl _) _)).alloc (by simp) _
  exact h2.trans (hb.mono h2.size)
end Go.Proofs.YtbefcdjcefmicaaGreat.Em

namespace Go.Proofs.YtbefcdjcefmicaaGreat.Em
open Go.ChangeShapes Go.WideShapes Go.ChangeAt Go.RowKit En
set_option linter.unusedVariables false
set_option linter.unusedSimpArgs false
set_option maxRecDepth 100000
set_option maxHeartbeats 1600000

theorem EKt.drop {b : Nat} {w0 w : World} {σ : St} {ks : List Kept} (h : EKt b w0 ks σ w) : EKt b w0 [] σ w := let ⟨A, e, l, g, _⟩ := h.ex; ⟨A, e, l, g, trivial⟩
theorem EKt.allocg {b : Nat} {w0 w : World} {σ : St} {ks : List Kept} (h : EKt b w0 ks σ w) (g : Nat) (hg : g = w.heap.size) (o : Obj) : EKt b w0 (.obj g o :: ks) σ (w.alloc o) := by
  subst hg
  exact h.alloc o
theorem row_of_obj {w : World} {g : Nat} {T : TypeId} (xs : List Value) (n size : Nat) (h : w.heap[g]? = some (.cells xs.toArray T)) (hl : xs.length = n * size) (hn : n ≤ 1000000) : Ow.Row w 0 size (.slice (some ⟨g, 0, none⟩) n n) xs := by
  refine ⟨_, n, n, rfl, hl, Nat.le_refl _, by unfold maxLen; omega, .inr ⟨g, 0, rfl, Nat.zero_le _, lt_of h, fun j hj => ?_⟩⟩
  rw [Nat.zero_add]
  have hj' : j < xs.length := by omega
  rw [List.getElem?_eq_getElem hj']
  simp [World.cell?, h, hj']
theorem row_nil (w : World) (size : Nat) : Ow.Row w 0 size (.slice none 0 0) [] := ⟨none, 0, 0, rfl, by simp, Nat.le_refl _, by unfold maxLen; omega, .inl rfl⟩
/-- The engine lies at a block, and a variable of a law's own at another. -/
structure ETm (b : Nat) (w0 : World) (g : Nat) (o : Obj) (σ : St) (w : World) : Prop where
  ex : ∃ A : Book, A.be = b ∧ Live A σ w ∧ Grow (fun _ => none) w0 A.L w ∧ A.L g = some .tmp ∧ w.heap[g]? = some o ∧ w0.heap.size ≤ g
theorem EKt.tm {b : Nat} {w0 w : World} {σ : St} {ks : List Kept} (h : EKt b w0 ks σ w) (o : Obj) : ETm b w0 w.heap.size o σ (w.alloc o) := by
  obtain ⟨A, e, l, g, _⟩ := h.ex
  obtain ⟨_, g1, t1, t2⟩ := l.rep.newTmp o
  exact ⟨A.tmp w.heap.size, e, l.newTmp o, g.trans g1, t1, t2, g.size⟩
theorem ETm.below {b : Nat} {w0 w w' : World} {g : Nat} {o : Obj} {σ : St} (h : ETm b w0 g o σ w) (hb : Below w.heap.size w w') : ETm b w0 g o σ w' := by
  obtain ⟨A, e, l, gr, t1, t2, t3⟩ := h.ex
  exact ⟨A, e, l.below hb, gr.trans (Grow.below hb), t1, (hb.block g (lt_of t2)).trans t2, t3⟩
theorem ETm.alloc {b : Nat} {w0 w : World} {g : Nat} {o : Obj} {σ : St} (h : ETm b w0 g o σ w) (o' : Obj) : ETm b w0 g o σ (w.alloc o') := h.below ((Below.refl _ w).alloc (Nat.le_refl _) o')
theorem ETm.obj {b : Nat} {w0 w : World} {g : Nat} {o : Obj} {σ : St} (h : ETm b w0 g o σ w) : w.heap[g]? = some o := let ⟨_, _, _, _, _, t, _⟩ := h.ex; t
theorem ETm.at {b : Nat} {w0 w : World} {g : Nat} {o : Obj} {σ : St} (h : ETm b w0 g o σ w) : EAt b w0 σ w := let ⟨A, e, l, gr, _⟩ := h.ex; ⟨A, e, l, gr⟩
theorem ETm.put {b : Nat} {w0 w w' : World} {g : Nat} {o o' : Obj} {σ : St} (h : ETm b w0 g o σ w) (hb : But g w w') (ho : w'.heap[g]? = some o') : ETm b w0 g o' σ w' := by
  obtain ⟨A, e, l, gr, t1, t2, t3⟩ := h.ex
  exact ⟨A, e, l.but t1 hb, gr.but t3 hb, t1, ho, t3⟩
theorem stLive_tm {b : Nat} {w0 w : World} {g : Nat} {o : Obj} {σ : St} (h : ETm b w0 g o σ w) (s : Nat) (hs : s < 8) :
    Calls Tryz.prog 18 #[.pointer (some ⟨b, 0, none⟩), .int .i64 (s : Int)] w fun e w' => ∃ y1 y2 y3 y4 y5 y6 y7 y8, e = .returned (.agg #[.bool (σ.status s).live, y1, y2, y3, y4, y5, y6, y7, y8]) ∧ ETm b w0 g o σ w' := by
  obtain ⟨A, rfl, hL, gr, t1, t2, t3⟩ := h.ex
  refine (status_any hL s hs).mono ?_
  rintro e w' ⟨rfl, hb⟩
  exact ⟨_, _, _, _, _, _, _, _, rfl, ETm.below ⟨A, rfl, hL, gr, t1, t2, t3⟩ hb⟩
theorem step_tm {b : Nat} {w0 w : World} {g : Nat} {o : Obj} {σ σ1 : St} (h : ETm b w0 g o σ w) {s kd : Nat} {r : Res} (hs : s < 8) (hr : oneStep σ s = some (σ1, kd, r)) :
    Calls Tryz.prog 19 #[.pointer (some ⟨b, 0, none⟩), .int .i64 (s : Int)] w fun e w' => ∃ va vn vc, e = .returned (.tuple #[.agg #[.int .i64 (kd : Int), .int .i64 (r.e : Int), .int .i64 (r.value : Int), .slice va vn vc, .int .i64 (r.over : Int), .int .i64 (r.reason : Int)], .int .i64 0]) ∧ ETm b w0 g o σ1 w' := by
  obtain ⟨A, rfl, hL, gr, t1, t2, t3⟩ := h.ex
  refine (step_calls hL hs hr).mono ?_
  rintro e w' ⟨A', vp, rfl, hf, hL', g', e'⟩
  obtain ⟨va, vn, vc, rfl⟩ := frow_form hf
  obtain ⟨t4, t5⟩ := tmp_grow ⟨t1, t2⟩ g'
  exact ⟨va, vn, vc, rfl, A', e', hL', gr.trans g', t4, t5, t3⟩
theorem pairs_tm {b : Nat} {w0 w : World} {g : Nat} {o : Obj} {σ : St} (h : ETm b w0 g o σ w) (hok : okPairs σ = true) :
    Calls Tryz.prog 32 #[.pointer (some ⟨b, 0, none⟩)] w fun e w' => ∃ av cap, e = .returned (.slice av σ.pairs.length cap) ∧ Ow.Row w' 0 2 (.slice av σ.pairs.length cap) (pairCs σ.pairs) ∧ ETm b w0 g o σ w' := by
  obtain ⟨A, rfl, hL, gr, t1, t2, t3⟩ := h.ex
  refine (pairs_any hL.rep hok).mono ?_
  rintro e w' ⟨av, cap, rfl, ho, hb⟩
  obtain ⟨a, n, c, k1, k2, k3, k4, k5⟩ := own_row ho
  refine ⟨av, cap, rfl, ⟨a, n, c, k1, k2, k3, k4, ?_⟩, ETm.below ⟨A, rfl, hL, gr, t1, t2, t3⟩ hb⟩
  rcases k5 with k5 | ⟨g', off, e1, e2, e3⟩
  · exact .inl k5
  · exact .inr ⟨g', off, e1, Nat.zero_le _, e3⟩
end Go.Proofs.YtbefcdjcefmicaaGreat.Em

namespace Go.Proofs.YtbefcdjcefmicaaGreat.Em
open Go.ChangeShapes Go.WideShapes Go.ChangeAt Go.RowKit En
set_option linter.unusedVariables false
set_option linter.unusedSimpArgs false
set_option maxRecDepth 100000
set_option maxHeartbeats 1600000

structure Dl where
  id : Nat
  level : Nat
  state : Nat
  begin_ : Nat
  end_ : Nat
  ops : List (En.Op × Res)
  deriving Repr, DecidableEq, Inhabited
structure Wd where
  σ : St
  deals : List Dl
  ids : List Nat
  ops : List En.Op
  gone : List Nat
  deriving Repr, DecidableEq, Inhabited
structure WBook where
  M : Lab
  bw : Nat
  vd : Value
  vg : Value
  ds : List (Dl × Value)
  cs : Nat → List Value
def opC (o : En.Op) : List Value := [i64 o.kind, i64 o.key, i64 o.hi, i64 o.value]
def dealCs (d : Dl) (v : Value) : List Value := [i64 d.id, i64 d.level, i64 d.state, u64 d.begin_, u64 d.end_, v]
def dealsCs (l : List (Dl × Value)) : List Value := l.flatMap fun p => dealCs p.1 p.2
def callsC (o : En.Op) (r : Res) (vp : Value) : List Value := opC o ++ [i64 r.e, i64 r.value, vp, i64 r.over, i64 r.reason]
def worldCs (be : Nat) (B : WBook) (W : Wd) : List Value := [ptr be, B.vd] ++ (W.ids.map i64 ++ (W.ops.flatMap opC ++ [B.vg]))
/-- The calls of a Deal, cell by cell. -/
def Cls (L : Lab) (w : World) : List (En.Op × Res) → List Value → Prop
  | [], cs => cs = []
  | p :: l, cs => ∃ vp cs', cs = callsC p.1 p.2 vp ++ cs' ∧ FRow L w 2 vp (pairCs p.2.pairs) ∧ Cls L w l cs'
theorem Cls.soft {L L' : Lab} {w w' : World} (g : Soft L w L' w') : ∀ {l : List (En.Op × Res)} {cs : List Value}, Cls L w l cs → Cls L' w' l cs
  | [], _, h => h
  | _ :: _, _, ⟨vp, cs', h1, h2, h3⟩ => ⟨vp, cs', h1, h2.soft g, h3.soft g⟩
theorem Cls.snoc {L : Lab} {w : World} : ∀ {l : List (En.Op × Res)} {cs : List Value} (_ : Cls L w l cs) (o : En.Op) (r : Res) (vp : Value) (_ : FRow L w 2 vp (pairCs r.pairs)), Cls L w (l ++ [(o, r)]) (cs ++ callsC o r vp)
  | [], _, h, o, r, vp, f => ⟨vp, [], by rw [show _ = _ from h]; simp, f, rfl⟩
  | _ :: _, _, ⟨vp', cs', h1, h2, h3⟩, o, r, vp, f => ⟨vp', _, by rw [h1, List.append_assoc], h2, h3.snoc o r vp f⟩
/-- What lies there for each role (the engine's roles, used anew). -/
def wmem (be : Nat) (B : WBook) (W : Wd) : Role → Entry
  | .eng => .obj B.bw (worldCs be B W) 35
  | .tale => .own B.vd 54 6 B.ds.length (dealsCs B.ds)
  | .free => .own B.vg 3 1 W.gone.length (W.gone.map i64)
  | .reads k => match B.ds[k]? with | some p => .own p.2 57 9 p.1.ops.length (B.cs k) | none => .none
  | _ => .none
structure WRep (A : Book) (W : Wd) (B : WBook) (w : World) : Prop where
  tie : ∀ b r, B.M b = some r → A.L b = some .tmp
  mem : Holds B.M w (wmem A.be B W)
  cls : ∀ k p, B.ds[k]? = some p → Cls A.L w p.1.ops (B.cs k)
  dl : B.ds.map (·.1) = W.deals
  i8 : W.ids.length = 8
  o8 : W.ops.length = 8
theorem WRep.soft {A A' : Book} {W : Wd} {B : WBook} {w w' : World} (h : WRep A W B w) (hbe : A'.be = A.be) (tie : ∀ b r, B.M b = some r → A'.L b = some .tmp) (mem : Holds B.M w' (wmem A.be B W)) (s : Soft A.L w A'.L w') (σ' : St) : WRep A' { W with σ := σ' } B w' :=
  ⟨tie, by rw [hbe]; exact mem, fun k p hk => (h.cls k p hk).soft s, h.dl, h.i8, h.o8⟩
theorem WRep.lt {A : Book} {W : Wd} {B : WBook} {w : World} (h : WRep A W B w) {b : Nat} {r : Role} (hb : B.M b = some r) : b < w.heap.size := by
  rcases Nat.lt_or_ge b w.heap.size with h1 | h1
  · exact h1
  · rw [h.mem.fresh b h1] at hb; cases hb
theorem WRep.grow {A A' : Book} {W : Wd} {B : WBook} {w w' : World} (h : WRep A W B w) (g : Grow A.L w A'.L w') (e : A'.be = A.be) (σ' : St) : WRep A' { W with σ := σ' } B w' :=
  h.soft e (fun b r hb => (g.lab b (h.lt hb)).trans (h.tie b r hb)) (h.mem.grow (fun b r hb hr => g.keep b hb (h.tie b r hr)) (fun _ _ => rfl) (fun b hb => h.mem.fresh b (Nat.le_trans g.size hb))) g.soft σ'
theorem Kept.soft {L L' : Lab} {w w' : World} (g : Soft L w L' w') : ∀ {k : Kept}, k.holds L w → k.holds L' w'
  | .obj _ _, h => Fix.soft h g
  | .row _ _ _, h => FRow.soft h g
theorem Kepts.soft {L L' : Lab} {w w' : World} (g : Soft L w L' w') : ∀ {ks : List Kept}, Kepts L w ks → Kepts L' w' ks
  | [], _ => trivial
  | _ :: _, ⟨h, t⟩ => ⟨Kept.soft g h, Kepts.soft g t⟩
/-- A World lies there, and what a law keeps beside it. -/
structure WK (B : WBook) (be : Nat) (w0 : World) (ks : List Kept) (W : Wd) (w : World) : Prop where
  ex : ∃ A : Book, A.be = be ∧ Live A W.σ w ∧ WRep A W B w ∧ Grow (fun _ => none) w0 A.L w ∧ Kepts A.L w ks
section
variable {B : WBook} {be : Nat} {w0 w w' : World} {ks : List Kept} {W : Wd}
theorem WK.toBelow (h : WK B be w0 ks W w) : Below w0.heap.size w0 w := let ⟨_, _, _, _, g, _⟩ := h.ex; g.toBelow
theorem WK.below (h : WK B be w0 ks W w) (hb : Below w.heap.size w w') : WK B be w0 ks W w' :=
  let ⟨A, e, l, r, g, t⟩ := h.ex
  ⟨A, e, l.below hb, r.grow (Grow.below hb) rfl W.σ, g.trans (Grow.below hb), Kepts.grow (Grow.below hb) t⟩
theorem WK.alloc (h : WK B be w0 ks W w) (o : Obj) : WK B be w0 (.obj w.heap.size o :: ks) W (w.alloc o) :=
  let ⟨A, e, l, r, g, t⟩ := h.ex
  ⟨A, e, l.alloc _, r.grow (Grow.alloc _ _ _) rfl W.σ, g.trans (Grow.alloc _ _ _), fix_next l.rep.mem.fresh _ rfl, Kepts.grow (Grow.alloc _ _ _) t⟩
theorem WK.drew (h : WK B be w0 ks W w) : WK B be w0 ks W w.drew := h.below (Below.refl _ _).drew
theorem WK.obj {k : Nat} {o : Obj} (h : WK B be w0 ks W w) (hm : .obj k o ∈ ks) : w.heap[k]? = some o := by
  obtain ⟨A, e, l, r, g, t⟩ := h.ex
  exact EKt.obj ⟨A, e, l, g, t⟩ hm
theorem WK.row {size : Nat} {v : Value} {xs : List Value} (h : WK B be w0 ks W w) (hm : .row size v xs ∈ ks) : Ow.Row w 0 size v xs := by
  obtain ⟨A, e, l, r, g, t⟩ := h.ex
  exact EKt.row ⟨A, e, l, g, t⟩ hm
theorem WK.keep {ks' : List Kept} (h : WK B be w0 ks W w) (hs : ∀ L, Kepts L w ks → Kepts L w ks') : WK B be w0 ks' W w :=
  let ⟨A, e, l, r, g, t⟩ := h.ex; ⟨A, e, l, r, g, hs _ t⟩
theorem WK.tail {k : Kept} (h : WK B be w0 (k :: ks) W w) : WK B be w0 ks W w := h.keep fun _ t => t.2
theorem WK.drop (h : WK B be w0 ks W w) : WK B be w0 [] W w := h.keep fun _ _ => trivial
/-- The cells of a World's block. -/
theorem WK.wcell (h : WK B be w0 ks W w) (i : Nat) {v : Value} (hv : (worldCs be B W)[i]? = some v) : w.cell? ⟨B.bw, i, none⟩ = some v ∧ w.frozen? ⟨B.bw, i, none⟩ = false := by
  obtain ⟨A, rfl, l, r, g, t⟩ := h.ex
  exact ⟨r.mem.cell (r := .eng) rfl i hv, r.mem.frozen (r := .eng) rfl i⟩
theorem WK.i8 (h : WK B be w0 ks W w) : W.ids.length = 8 := let ⟨_, _, _, r, _⟩ := h.ex; r.i8
theorem WK.o8 (h : WK B be w0 ks W w) : W.ops.length = 8 := let ⟨_, _, _, r, _⟩ := h.ex; r.o8
theorem WK.lt (h : WK B be w0 ks W w) : B.bw < w.heap.size := by
  obtain ⟨A, rfl, l, r, g, t⟩ := h.ex
  exact r.lt (r.mem.all .eng).1
theorem WK.deals (h : WK B be w0 ks W w) : w.ownsRow 0 54 6 B.vd B.ds.length (dealsCs B.ds) := let ⟨_, _, _, r, _⟩ := h.ex; (r.mem.all .tale).1
theorem WK.gone (h : WK B be w0 ks W w) : w.ownsRow 0 3 1 B.vg W.gone.length (W.gone.map i64) := let ⟨_, _, _, r, _⟩ := h.ex; (r.mem.all .free).1
theorem WK.dl (h : WK B be w0 ks W w) : B.ds.map (·.1) = W.deals := let ⟨_, _, _, r, _⟩ := h.ex; r.dl
theorem WK.dlen (h : WK B be w0 ks W w) : B.ds.length = W.deals.length := by rw [← h.dl]; simp
end
theorem worldCs_id {be : Nat} {B : WBook} {W : Wd} (h8 : W.ids.length = 8) {s : Nat} (hs : s < 8) : (worldCs be B W)[2 + s]? = some (i64 (W.ids.getD s 0)) := by
  unfold worldCs
  rw [List.getElem?_append_right (by simp), List.getElem?_append_left (by simp; omega)]
  simp [List.getD_eq_getElem?_getD, List.getElem?_eq_getElem (show s < W.ids.length by omega)]
theorem opC_len (l : List En.Op) : (l.flatMap opC).length = l.length * 4 := by
  induction l with
  | nil => rfl
  | cons a l ih => rw [List.flatMap_cons, List.length_append, ih, List.length_cons, show (opC a).length = 4 from rfl]; omega
theorem opC_get : ∀ (l : List En.Op) (s j : Nat), j < 4 → (l.flatMap opC)[s * 4 + j]? = (l[s]?).bind fun o => (opC o)[j]?
  | [], _, _, _ => rfl
  | o :: l, 0, j, hj => by
    rw [List.flatMap_cons, Nat.zero_mul, Nat.zero_add, List.getElem?_append_left (by exact hj)]
    rfl
  | o :: l, s + 1, j, hj => by
    rw [List.flatMap_cons, List.getElem?_append_right (by show 4 ≤ _; omega), show (s + 1) * 4 + j - (opC o).length = s * 4 + j by show _ - 4 = _; omega, opC_get l s j hj]
    rfl
theorem worldCs_op {be : Nat} {B : WBook} {W : Wd} (h8 : W.ids.length = 8) (o8 : W.ops.length = 8) {s j : Nat} (hs : s < 8) (hj : j < 4) : (worldCs be B W)[10 + (s * 4 + j)]? = (opC (W.ops.getD s default))[j]? := by
  unfold worldCs
  have hl : (W.ops.flatMap opC).length = 32 := by rw [opC_len, o8]
  rw [List.getElem?_append_right (by simp; omega), List.getElem?_append_right (by simp; omega), List.getElem?_append_left (by simp only [List.length_append, List.length_cons, List.length_nil, List.length_map, hl, h8]; omega)]
  rw [show 10 + (s * 4 + j) - [ptr be, B.vd].length - (W.ids.map i64).length = s * 4 + j by simp only [List.length_append, List.length_cons, List.length_nil, List.length_map, hl, h8]; omega, opC_get _ _ _ hj]
  simp [List.getD_eq_getElem?_getD, List.getElem?_eq_getElem (show s < W.ops.length by omega)]
theorem worldCs_gone {be : Nat} {B : WBook} {W : Wd} (h8 : W.ids.length = 8) (o8 : W.ops.length = 8) : (worldCs be B W)[42]? = some B.vg := by
  unfold worldCs
  have hl : (W.ops.flatMap opC).length = 32 := by rw [opC_len, o8]
  rw [List.getElem?_append_right (by simp), List.getElem?_append_right (by simp; omega), List.getElem?_append_right (by simp only [List.length_append, List.length_cons, List.length_nil, List.length_map, hl, h8]; omega), show 42 - [ptr be, B.vd].length - (W.ids.map i64).length - (W.ops.flatMap opC).length = 0 by simp only [List.length_append, List.length_cons, List.length_nil, List.length_map, hl, h8]]
  rfl
theorem worldCs_setId {be : Nat} {B : WBook} {W : Wd} (h8 : W.ids.length = 8) {s : Nat} (hs : s < 8) (id : Nat) : (worldCs be B W).set (2 + s) (i64 id) = worldCs be B { W with ids := W.ids.set s id } := by
  unfold worldCs
  rw [List.set_append_right _ _ (by simp), List.set_append_left _ _ (by simp; omega)]
  congr 1
  rw [show 2 + s - [ptr be, B.vd].length = s by simp]
  simp [List.map_set]
theorem worldCs_setGone {be : Nat} {B : WBook} {W : Wd} (h8 : W.ids.length = 8) (o8 : W.ops.length = 8) (v : Value) : (worldCs be B W).set 42 v = worldCs be { B with vg := v } W := by
  unfold worldCs
  have hl : (W.ops.flatMap opC).length = 32 := by rw [opC_len, o8]
  rw [List.set_append_right _ _ (by simp), List.set_append_right _ _ (by simp; omega), List.set_append_right _ _ (by simp only [List.length_append, List.length_cons, List.length_nil, List.length_map, hl, h8]; omega), show 42 - [ptr be, B.vd].length - (W.ids.map i64).length - (W.ops.flatMap opC).length = 0 by simp only [List.length_append, List.length_cons, List.length_nil, List.length_map, hl, h8]]
  rfl
theorem opC_set : ∀ (l : List En.Op) (s : Nat) (o : En.Op), s < l.length → ((((l.flatMap opC).set (s * 4) (i64 o.kind)).set (s * 4 + 1) (i64 o.key)).set (s * 4 + 2) (i64 o.hi)).set (s * 4 + 3) (i64 o.value) = (l.set s o).flatMap opC
  | [], _, _, h => by cases h
  | o' :: l, 0, o, _ => by simp [opC]
  | o' :: l, s + 1, o, h => by
    have := opC_set l s o (by simpa using h)
    rw [show (s + 1) * 4 = s * 4 + 4 by omega]
    simp only [List.flatMap_cons, opC, List.cons_append, List.nil_append, List.set_cons_succ, show s * 4 + 4 + 1 = s * 4 + 1 + 4 by omega, show s * 4 + 4 + 2 = s * 4 + 2 + 4 by omega, show s * 4 + 4 + 3 = s * 4 + 3 + 4 by omega]
    rw [this]
theorem worldCs_setOp {be : Nat} {B : WBook} {W : Wd} (h8 : W.ids.length = 8) (o8 : W.ops.length = 8) {s : Nat} (hs : s < 8) (o : En.Op) : ((((worldCs be B W).set (10 + s * 4) (i64 o.kind)).set (10 + s * 4 + 1) (i64 o.key)).set (10 + s * 4 + 2) (i64 o.hi)).set (10 + s * 4 + 3) (i64 o.value) = worldCs be B { W with ops := W.ops.set s o } := by
  unfold worldCs
  have hl : (W.ops.flatMap opC).length = 32 := by rw [opC_len, o8]
  have st : ∀ (l : List Value) (i : Nat) (v : Value), l.length = 32 → i < 32 → ([ptr be, B.vd] ++ (W.ids.map i64 ++ (l ++ [B.vg]))).set (10 + i) v = [ptr be, B.vd] ++ (W.ids.map i64 ++ (l.set i v ++ [B.vg])) := by
    intro l i v hl hi
    rw [List.set_append_right _ _ (by simp; omega), List.set_append_right _ _ (by simp; omega), List.set_append_left _ _ (by simp; omega)]
    rw [show 10 + i - [ptr be, B.vd].length - (W.ids.map i64).length = i by simp only [List.length_cons, List.length_nil, List.length_map, h8]; omega]
  rw [st _ _ _ hl (by omega), show 10 + s * 4 + 1 = 10 + (s * 4 + 1) by omega, st _ _ _ (by simp [hl]) (by omega), show 10 + s * 4 + 2 = 10 + (s * 4 + 2) by omega, st _ _ _ (by simp [hl]) (by omega), show 10 + s * 4 + 3 = 10 + (s * 4 + 3) by omega, st _ _ _ (by simp [hl]) (by omega), opC_set _ _ _ (by omega)]
theorem wmem_eng {be : Nat} {B B' : WBook} {W W' : Wd} (hb : B'.bw = B.bw) (hd : B'.vd = B.vd) (hg : B'.vg = B.vg) (hds : B'.ds = B.ds) (hcs : B'.cs = B.cs) (hgo : W'.gone = W.gone) (q : Role) (hq : q ≠ .eng) : wmem be B' W' q = wmem be B W q := by
  cases q <;> first | (exact absurd rfl hq) | (simp only [wmem, hb, hd, hg, hds, hcs, hgo])
theorem But.refl (b : Nat) (w : World) : But b w w := ⟨rfl, rfl, rfl, rfl, fun _ _ => rfl⟩
section
variable {B : WBook} {be : Nat} {w0 w w' : World} {ks : List Kept} {W : Wd}
/-- The World's block is written. -/
theorem WK.put (h : WK B be w0 ks W w) (hb : But B.bw w w') (B' : WBook) (W' : Wd) (hM : B'.M = B.M) (hbw : B'.bw = B.bw) (hvd : B'.vd = B.vd) (hvg : B'.vg = B.vg) (hds : B'.ds = B.ds) (hcs : B'.cs = B.cs) (hσ : W'.σ = W.σ) (hdl : W'.deals = W.deals) (hgo : W'.gone = W.gone) (h8 : W'.ids.length = 8) (o8 : W'.ops.length = 8)
    (hc : w'.heap[B.bw]? = some (.cells (worldCs be B' W').toArray 35)) : WK B' be w0 ks W' w' := by
  obtain ⟨A, rfl, l, r, g, t⟩ := h.ex
  have hl : A.L B.bw = some .tmp := r.tie _ _ (r.mem.all .eng).1
  have hm : B.M B.bw = some .eng := (r.mem.all .eng).1
  refine ⟨A, rfl, by rw [hσ]; exact l.but hl hb, ⟨by rw [hM]; exact r.tie, ?_, ?_, by rw [hds, hdl]; exact r.dl, h8, o8⟩, g.but ?_ hb, Kepts.soft (hb.soft hl) t⟩
  · rw [hM]
    refine r.mem.upd .eng ?_ (fun q hq => wmem_eng hbw hvd hvg hds hcs hgo q hq) (fun b q hb' hl' hq => hb.block b ?_) (fun _ _ => rfl) (fun b hb' => r.mem.fresh b (by rw [← hb.size]; exact hb'))
    · show Entry.Holds B.M w' .eng (.obj B'.bw _ _)
      rw [hbw]
      exact ⟨hm, hc⟩
    · rintro rfl
      rw [hm] at hl'
      exact hq (Option.some.inj hl').symm
  · rw [hds, hcs]
    exact fun k p hk => (r.cls k p hk).soft (hb.soft hl)
  · rcases Nat.lt_or_ge B.bw w0.heap.size with h1 | h1
    · rw [g.lab _ h1] at hl; cases hl
    · exact h1
theorem WK.putId (h : WK B be w0 ks W w) {s : Nat} (hs : s < 8) (id : Nat) : WK B be w0 ks { W with ids := W.ids.set s id } (w.setCell ⟨B.bw, 2 + s, none⟩ (i64 id)) := by
  refine h.put (But.setCell w ⟨B.bw, 2 + s, none⟩ _) B _ rfl rfl rfl rfl rfl rfl rfl rfl rfl (by simp [h.i8]) h.o8 ?_
  obtain ⟨A, rfl, l, r, g, t⟩ := h.ex
  rw [heap_setCell_same (r.mem.all .eng).2, List.setIfInBounds_toArray, worldCs_setId r.i8 hs]
theorem WK.putOp (h : WK B be w0 ks W w) {s : Nat} (hs : s < 8) (o : En.Op) : WK B be w0 ks { W with ops := W.ops.set s o } (w.setCells B.bw (10 + s * 4) (opC o)) := by
  refine h.put (But.setCells _ _ _ _) B _ rfl rfl rfl rfl rfl rfl rfl rfl rfl h.i8 (by simp [h.o8]) ?_
  obtain ⟨A, rfl, l, r, g, t⟩ := h.ex
  have h1 := heap_setCell_same (r.mem.all .eng).2 (10 + s * 4) (i64 o.kind)
  have h2 := heap_setCell_same h1 (10 + s * 4 + 1) (i64 o.key)
  have h3 := heap_setCell_same h2 (10 + s * 4 + 1 + 1) (i64 o.hi)
  have h4 := heap_setCell_same h3 (10 + s * 4 + 1 + 1 + 1) (i64 o.value)
  refine Eq.trans h4 ?_
  rw [List.setIfInBounds_toArray, List.setIfInBounds_toArray, List.setIfInBounds_toArray, List.setIfInBounds_toArray, worldCs_setOp r.i8 r.o8 hs]
end
section
variable {B : WBook} {be : Nat} {w0 w w' : World} {ks : List Kept} {W : Wd}
theorem WK.of {A A' : Book} {σ' : St} (l : Live A W.σ w) (r : WRep A W B w) (g : Grow (fun _ => none) w0 A.L w) (t : Kepts A.L w ks) (hL' : Live A' σ' w') (g' : Grow A.L w A'.L w') (e' : A'.be = A.be) : WK B A.be w0 ks { W with σ := σ' } w' :=
  ⟨A', e', hL', r.grow g' e' σ', g.trans g', Kepts.grow g' t⟩
theorem begin_wk (h : WK B be w0 ks W w) {s level id : Nat} {σ1 : St} (hs : s < 8) (hr : beginOk W.σ s level = some (σ1, id)) :
    Calls Tryz.prog 41 #[.pointer (some ⟨be, 0, none⟩), .int .i64 (s : Int), .int .i64 (level : Int)] w fun e w' => e = .returned (.tuple #[.int .i64 (id : Int), .int .i64 0]) ∧ WK B be w0 ks { W with σ := σ1 } w' := by
  obtain ⟨A, rfl, l, r, g, t⟩ := h.ex
  refine (begin_to hs hr A w l).mono ?_
  rintro e w' ⟨A', rfl, hL', g', e'⟩
  exact ⟨rfl, WK.of l r g t hL' g' e'⟩
theorem issue_wk (h : WK B be w0 ks W w) {s : Nat} {o : En.Op} {σ1 : St} (hs : s < 8) (hr : issueOk W.σ s o = some σ1) :
    Calls Tryz.prog 17 #[.pointer (some ⟨be, 0, none⟩), .int .i64 (s : Int), .agg #[.int .i64 (o.kind : Int), .int .i64 (o.key : Int), .int .i64 (o.hi : Int), .int .i64 (o.value : Int)]] w fun e w' => e = .returned (.int .i64 0) ∧ WK B be w0 ks { W with σ := σ1 } w' := by
  obtain ⟨A, rfl, l, r, g, t⟩ := h.ex
  refine (issue_to hs hr A w l).mono ?_
  rintro e w' ⟨A', rfl, hL', g', e'⟩
  exact ⟨rfl, WK.of l r g t hL' g' e'⟩
theorem step_wk (h : WK B be w0 ks W w) {s kd : Nat} {r : Res} {σ1 : St} (hs : s < 8) (hr : oneStep W.σ s = some (σ1, kd, r)) :
    Calls Tryz.prog 19 #[.pointer (some ⟨be, 0, none⟩), .int .i64 (s : Int)] w (fun e w' => ∃ va vn vc, e = .returned (.tuple #[.agg #[.int .i64 (kd : Int), .int .i64 (r.e : Int), .int .i64 (r.value : Int), .slice va vn vc, .int .i64 (r.over : Int), .int .i64 (r.reason : Int)], .int .i64 0]) ∧ vn = r.pairs.length ∧ WK B be w0 (.row 2 (.slice va vn vc) (pairCs r.pairs) :: ks) { W with σ := σ1 } w') := by
  obtain ⟨A, rfl, l, r', g, t⟩ := h.ex
  refine (step_calls l hs hr).mono ?_
  rintro e w' ⟨A', vp, rfl, hf, hL', g', e'⟩
  obtain ⟨va, vn, vc, rfl⟩ := frow_form hf
  have hvn : vn = r.pairs.length := by
    obtain ⟨a, n, c, e0, h1, _⟩ := hf
    simp only [Value.slice.injEq] at e0
    rw [pairCs_len] at h1
    omega
  exact ⟨va, vn, vc, rfl, hvn, A', e', hL', r'.grow g' e' σ1, g.trans g', hf, Kepts.grow g' t⟩
theorem status_wk (h : WK B be w0 ks W w) (s : Nat) (hs : s < 8) :
    Calls Tryz.prog 18 #[.pointer (some ⟨be, 0, none⟩), .int .i64 (s : Int)] w fun e w' => e = .returned (.agg (statusCs (W.σ.status s))) ∧ WK B be w0 ks W w' := by
  obtain ⟨A, rfl, l, r, g, t⟩ := h.ex
  refine (status_any l s hs).mono ?_
  rintro e w' ⟨rfl, hb⟩
  exact ⟨rfl, WK.below ⟨A, rfl, l, r, g, t⟩ hb⟩
theorem now_wk (h : WK B be w0 ks W w) (hx : W.σ.word 0 < 18446744073709551616) :
    Calls Tryz.prog 27 #[.pointer (some ⟨be, 0, none⟩)] w fun e w' => e = .returned (.int .u64 (W.σ.now : Int)) ∧ WK B be w0 ks W w' := by
  obtain ⟨A, rfl, l, r, g, t⟩ := h.ex
  refine (now_any l.rep hx).mono ?_
  rintro e w' ⟨rfl, hb⟩
  exact ⟨rfl, WK.below ⟨A, rfl, l, r, g, t⟩ hb⟩
theorem looks_wk (h : WK B be w0 ks W w) :
    Calls Tryz.prog 29 #[.pointer (some ⟨be, 0, none⟩)] w fun e w' => e = .returned (.int .i64 (W.σ.looks : Int)) ∧ w = w' := by
  obtain ⟨A, rfl, l, r, g, t⟩ := h.ex
  exact looks_any l.rep
theorem live_wk (h : WK B be w0 ks W w) :
    Calls Tryz.prog 30 #[.pointer (some ⟨be, 0, none⟩)] w fun e w' => ∃ av cap, e = .returned (.slice av W.σ.live.length cap) ∧ WK B be w0 ks W w' := by
  obtain ⟨A, rfl, l, r, g, t⟩ := h.ex
  refine (liveRow_any l.rep).mono ?_
  rintro e w' ⟨av, cap, rfl, _, hb⟩
  exact ⟨av, cap, rfl, WK.below ⟨A, rfl, l, r, g, t⟩ hb⟩
theorem pairs_wk (h : WK B be w0 ks W w) (hok : okPairs W.σ = true) :
    Calls Tryz.prog 32 #[.pointer (some ⟨be, 0, none⟩)] w fun e w' => ∃ av cap, e = .returned (.slice av W.σ.pairs.length cap) ∧ Ow.Row w' 0 2 (.slice av W.σ.pairs.length cap) (pairCs W.σ.pairs) ∧ WK B be w0 ks W w' := by
  obtain ⟨A, rfl, l, r, g, t⟩ := h.ex
  refine (pairs_any l.rep hok).mono ?_
  rintro e w' ⟨av, cap, rfl, ho, hb⟩
  obtain ⟨a, n, c, k1, k2, k3, k4, k5⟩ := own_row ho
  refine ⟨av, cap, rfl, ⟨a, n, c, k1, k2, k3, k4, ?_⟩, WK.below ⟨A, rfl, l, r, g, t⟩ hb⟩
  rcases k5 with k5 | ⟨g', off, e1, e2, e3⟩
  · exact .inl k5
  · exact .inr ⟨g', off, e1, Nat.zero_le _, e3⟩
end
end Go.Proofs.YtbefcdjcefmicaaGreat.Em

namespace Go.Proofs.YtbefcdjcefmicaaGreat.Em
open Go.ChangeShapes Go.WideShapes Go.ChangeAt Go.RowKit En
set_option linter.unusedVariables false
set_option linter.unusedSimpArgs false
set_option maxRecDepth 100000
set_option maxHeartbeats 1600000

theorem infoDl : (Tryz.prog.info? 54).map (fun i => (i.zero, i.size, i.bytes)) = some (some (.agg #[.int .i64 0, .int .i64 0, .int .i64 0, .int .u64 0, .int .u64 0, .slice none 0 0]), 6, 64) := by kernel_rfl
theorem dealsCs_one (l : List (Dl × Value)) (d : Dl) (v : Value) : dealsCs (l ++ [(d, v)]) = dealsCs l ++ dealCs d v := by simp [dealsCs]
section
variable {B : WBook} {be : Nat} {w0 w w' : World} {ks : List Kept} {W : Wd}
theorem WK.ge (h : WK B be w0 ks W w) {b : Nat} {r : Role} (hb : B.M b = some r) : w0.heap.size ≤ b := by
  obtain ⟨A, rfl, l, r', g, t⟩ := h.ex
  rcases Nat.lt_or_ge b w0.heap.size with h1 | h1
  · have := r'.tie b r hb
    rw [g.lab _ h1] at this; cases this
  · exact h1
/-- A Deal is put behind the others. -/
theorem WK.addDeal {w1 : World} {v' : Value} (h : WK B be w0 ks W w) (d : Dl) (hd : d.ops = []) (hb : Below w.heap.size w w1)
    (ho : w'.ownsRow 0 54 6 v' (B.ds.length + 1) (dealsCs B.ds ++ dealCs d (.slice none 0 0))) (hg : w1.grownBy w' B.vd.ownBlock) (h3 : v'.ownBlock = B.vd.ownBlock ∨ ∀ g, v'.ownBlock = some g → w1.heap.size ≤ g) :
    ∃ B', B'.bw = B.bw ∧ w'.cell? ⟨B.bw, 1, none⟩ = some B.vd ∧ w'.frozen? ⟨B.bw, 1, none⟩ = false ∧ WK B' be w0 ks { W with deals := W.deals ++ [d] } (w'.setCell ⟨B.bw, 1, none⟩ v') := by
  have h1 := h.below hb
  have hge : ∀ b r, B.M b = some r → w0.heap.size ≤ b := fun b r => h1.ge
  obtain ⟨A, rfl, l, r, g, t⟩ := h1.ex
  have htm : TmpRow A.L B.vd := fun b hb => r.tie b _ ((r.mem.all .tale).2 b hb)
  obtain ⟨L', hrow, htm'⟩ := append_tmp l htm ho hg h3
  have hgr := r.mem.grown .tale (v := B.vd) (v' := v') (n' := B.ds.length + 1) rfl hg ho h3
  obtain ⟨hm, hgm⟩ := hgr
  have hc1 := hm.cell (r := .eng) (b := B.bw) (cs := worldCs A.be B W) (T := 35) (updE_other _ _ (by simp)) 1 (v := B.vd) rfl
  have hc2 := hm.frozen (r := .eng) (b := B.bw) (cs := worldCs A.be B W) (T := 35) (updE_other _ _ (by simp)) 1
  have hp := hm.put .eng (b := B.bw) (cs := worldCs A.be B W) (T := 35) (updE_other _ _ (by simp)) 1 v'
  have hbw : B.M B.bw = some .eng := (r.mem.all .eng).1
  have hlt : B.bw < w1.heap.size := r.lt hbw
  have hlb : L' B.bw = some .tmp := (hrow.lab _ hlt).trans (r.tie _ _ hbw)
  have hbut := But.setCell w' ⟨B.bw, 1, none⟩ v'
  have hsoft := hbut.soft hlb
  refine ⟨{ B with M := labV B.M v' .tale, vd := v', ds := B.ds ++ [(d, .slice none 0 0)], cs := fun k => if k = B.ds.length then [] else B.cs k }, rfl, hc1, hc2, { A with L := L' }, rfl, ?_, ⟨fun b q hbq => ?_, ⟨fun q => ?_, hp.fresh⟩, fun k p hk => ?_, ?_, r.i8, r.o8⟩, ?_, Kepts.soft hsoft (Kepts.soft hrow.soft t)⟩
  · exact (l.rown hrow).but hlb hbut
  · replace hbq : labV B.M v' .tale b = some q := hbq
    unfold labV at hbq
    split at hbq
    · rename_i hv
      exact htm' b hv
    · exact (hrow.lab b (r.lt hbq)).trans (r.tie b q hbq)
  · have hq := hp.all q
    cases q with
    | eng => exact hq
    | tale =>
      rw [updE_other _ _ (by simp), updE_same] at hq
      show Entry.Holds _ _ _ (.own v' _ 6 (B.ds ++ [(d, _)]).length (dealsCs (B.ds ++ [(d, _)])))
      rw [dealsCs_one, List.length_append]
      exact hq
    | free => rw [updE_other _ _ (by simp), updE_other _ _ (by simp)] at hq; exact hq
    | reads k =>
      rw [updE_other _ _ (by simp), updE_other _ _ (by simp)] at hq
      by_cases hk : k = B.ds.length
      · subst hk
        simp only [wmem]
        rw [List.getElem?_append_right (Nat.le_refl _), Nat.sub_self]
        show Entry.Holds _ _ _ (.own (.slice none 0 0) _ 9 d.ops.length _)
        rw [hd]
        simp only [if_true, List.length_nil]
        exact ⟨World.ownsRow_nil _ _ _ _, fun g hg => by cases hg⟩
      · simp only [wmem] at hq ⊢
        rw [if_neg hk]
        rcases Nat.lt_or_ge k B.ds.length with h4 | h4
        · rw [List.getElem?_append_left h4]; exact hq
        · rw [List.getElem?_eq_none (by simp; omega)]; trivial
    | _ => trivial
  · by_cases hkl : k = B.ds.length
    · subst hkl
      rw [List.getElem?_append_right (Nat.le_refl _), Nat.sub_self] at hk
      obtain rfl := Option.some.inj hk
      rw [hd]
      show Cls _ _ [] (if B.ds.length = B.ds.length then [] else _)
      rw [if_pos rfl]
      rfl
    · have h4 : k < B.ds.length := by
        have := (List.getElem?_eq_some_iff.1 hk).1
        simp at this; omega
      rw [List.getElem?_append_left h4] at hk
      show Cls L' _ _ (if k = B.ds.length then [] else B.cs k)
      rw [if_neg hkl]
      exact ((r.cls k p hk).soft hrow.soft).soft hsoft
  · rw [List.map_append, r.dl]; rfl
  · exact (g.rown hrow (fun b hb => hge b _ ((r.mem.all .tale).2 b hb))).but (hge _ _ hbw) hbut
end
/-- A Begin that is answered OK, checked. -/
def wBeginOk (W : Wd) (s level : Nat) : Option Wd :=
  match beginOk W.σ s level with
  | some (σ1, id) =>
    if id = W.deals.length + 1 ∧ W.ids.getD s 0 = 0 ∧ σ1.now = W.σ.now + 1 ∧ W.σ.word 0 < 18446744073709551616 ∧ σ1.word 0 < 18446744073709551616 ∧ W.deals.length < 100000 then
      some { W with σ := σ1, ids := W.ids.set s id, deals := W.deals ++ [⟨id, level, 1, W.σ.now + 1, 0, []⟩] }
    else none
  | none => none
theorem wbegin_any {B : WBook} {be : Nat} {w0 w : World} {ks : List Kept} {W W' : Wd} (h : WK B be w0 ks W w) {s level : Nat} (hs : s < 8) (hr : wBeginOk W s level = some W') :
    Calls Tryz.prog 16 #[.pointer (some ⟨B.bw, 0, none⟩), .int .i64 (s : Int), .int .i64 (level : Int)] w fun e w' => e = .returned (.bool true) ∧ ∃ B', B'.bw = B.bw ∧ WK B' be w0 ks W' w' := by
  obtain ⟨ii, hii, hz0, hz1, hz2⟩ := info_parts infoDl
  unfold wBeginOk at hr
  split at hr
  · rename_i σ1 id hbe
    split at hr
    · rename_i hh
      obtain ⟨h1, h2, h3, h4, h5, h6⟩ := hh
      obtain rfl := Option.some.inj hr
      have hdl := h.dlen
      obtain ⟨va, vc, hvd, hc1, hc2, _⟩ := Ow.own_form h.deals
      rw [hdl] at hvd
      have i8 := h.i8
      obtain ⟨n, hn⟩ : ∃ n, n = W.deals.length := ⟨_, rfl⟩
      obtain ⟨nw, hnw⟩ : ∃ nw, nw = W.σ.now := ⟨_, rfl⟩
      have hnwb : nw < 281474976710656 := by rw [hnw]; unfold St.now timeOf; omega
      have N1 := Lib.hid (now_wk h h4)
      have N2 : Hid (∀ w1, WK B be w0 ks W w1 → Calls Tryz.prog 41 #[.pointer (some ⟨be, 0, none⟩), .int .i64 (s : Int), .int .i64 (level : Int)] w1 fun e w' => e = .returned (.tuple #[.int .i64 (id : Int), .int .i64 0]) ∧ WK B be w0 ks { W with σ := σ1 } w') := fun w1 q => begin_wk q hs hbe
      have N3 : Hid (∀ w1, WK B be w0 ks { W with σ := σ1 } w1 → Calls Tryz.prog 27 #[.pointer (some ⟨be, 0, none⟩)] w1 fun e w' => e = .returned (.int .u64 ((nw : Int) + 1)) ∧ WK B be w0 ks { W with σ := σ1 } w') := fun w1 q => by
        have hh := now_wk q h5
        rw [show ({ W with σ := σ1 } : Wd).σ.now = nw + 1 by rw [hnw]; exact h3] at hh
        exact hh
      rw [← hnw] at N1
      have C : Hid (∀ σ' w1, WK B be w0 ks { W with σ := σ' } w1 → w1.cell? ⟨B.bw, 0, none⟩ = some (.pointer (some ⟨be, 0, none⟩)) ∧ w1.cell? ⟨B.bw, 1, none⟩ = some (.slice va n vc) ∧ w1.cell? ⟨B.bw, 2 + s, none⟩ = some (.int .i64 0) ∧ w1.frozen? ⟨B.bw, 2 + s, none⟩ = false) := fun σ' w1 q => by
        have y1 := (q.wcell 1 rfl).1
        have y2 := q.wcell (2 + s) (worldCs_id (W := { W with σ := σ' }) i8 hs)
        rw [show ({ W with σ := σ' } : Wd).ids.getD s 0 = 0 from h2] at y2
        rw [hvd, ← hn] at y1
        exact ⟨(q.wcell 0 rfl).1, y1, y2.1, y2.2⟩
      have D : Hid (∀ w1, WK B be w0 ks { W with σ := σ1 } w1 → (w1.setCell ⟨B.bw, 2 + s, none⟩ (.int .i64 (id : Int))).cell? ⟨B.bw, 1, none⟩ = some (.slice va n vc) ∧ WK B be w0 ks { W with σ := σ1, ids := W.ids.set s id } (w1.setCell ⟨B.bw, 2 + s, none⟩ (.int .i64 (id : Int)))) := fun w1 q => by
        have q2 := q.putId hs id
        have y1 := (q2.wcell 1 rfl).1
        rw [hvd, ← hn] at y1
        exact ⟨y1, q2⟩
      have x0 := (C.out W.σ w h).1
      have b0 : ((s : Int) < 0) = False := by simp
      have b1 : ((7 : Int) < (s : Int)) = False := by simp; omega
      have b2 : (0 : Int) ≤ (s : Int) := by omega
      have b3 : (s : Int) < 8 := by omega
      have b4 : decide ((s : Int) < 0) = false := by simp
      have b5 : decide ((7 : Int) < (s : Int)) = false := by simp; omega
      have b6 : (7 < s) = False := by simp; omega
      have e1 : ((id : Int) == (n : Int) + 1) = true := by simp; omega
      have e2 : ((id : Int) != (n : Int) + 1) = false := by simp; omega
      have e3 : ((id : Int) = (n : Int) + 1) = True := by simp; omega
      have n1 : IntKind.i64.wrap ((n : Int) + 1) = (n : Int) + 1 := by rw [IntKind.wrap_i64]; omega
      have n2 : IntKind.u64.wrap ((nw : Int) + 1) = (nw : Int) + 1 := by rw [IntKind.wrap_u64]; omega
      have T0 := Lib.hid h
      have HV := Lib.hid (And.intro hvd (And.intro hdl (And.intro hn (And.intro h1 (And.intro h6 hnw)))))
      clear h hr hbe h1 h2 h3 h4 h5 h6 hvd hdl hn hnw i8 hs hc1 hc2 hnwb
      go_enter Tryz.func16, Tryz.ntmps16
      go_upto_region 8 with (first | (go_at_call 27; refine N1.out.mono ?_; clear T0; rintro e w1 ⟨rfl, q⟩; obtain ⟨x1, _⟩ := C.out W.σ w1 q; have T1 := Lib.hid q; clear q) | (go_at_call 41; refine (N2.out _ T1.out).mono ?_; rintro e w2 ⟨rfl, q⟩; obtain ⟨y0, y1, y2, y3⟩ := C.out σ1 w2 q; have T2 := Lib.hid q; clear q T1) | (go_at_call 27; refine (N3.out _ T2.out).mono ?_; clear T2; rintro e w3 ⟨rfl, q⟩; obtain ⟨z0, z1, z2, z3⟩ := C.out σ1 w3 q; obtain ⟨z4, q2⟩ := D.out w3 q; have T3 := Lib.hid q2; clear q q2))
      go_wp2_with (refine Ow.wpList_append_to _ rfl (.tmp 83) (.tmp 89) 28 rfl 0 54 ii _ 6 64 Tryz.underlying28 hii hz0 hz1 hz2 rfl (by decide) (.slice va n vc) n (dealsCs B.ds) rfl (by have k := (T3.out.alloc (.cells #[.int .i64 (id : Int), .int .i64 (level : Int), .int .i64 1, .int .u64 ((nw : Int) + 1), .int .u64 0, .slice none 0 0] 54)).deals; rw [HV.out.1, HV.out.2.1, ← HV.out.2.2.1] at k; exact k) ⟨w3.heap.size, 0, none⟩ 1 1 (by omega) [.int .i64 (id : Int), .int .i64 (level : Int), .int .i64 1, .int .u64 ((nw : Int) + 1), .int .u64 0, .slice none 0 0] rfl rfl (fun j u hu => Ow.new_row (w3.setCell ⟨B.bw, 2 + s, none⟩ (.int .i64 (id : Int))) [.int .i64 (id : Int), .int .i64 (level : Int), .int .i64 1, .int .u64 ((nw : Int) + 1), .int .u64 0, .slice none 0 0] _ w3.heap.size (by simp [World.setCell]) j u hu) (by intro u hu; simp at hu; rcases hu with rfl | rfl | rfl | rfl | rfl | rfl <;> rfl) (by have := HV.out.2.2.1; have := HV.out.2.2.2.2.1; unfold maxLen; omega) (by have := HV.out.2.2.1; have := HV.out.2.2.2.2.1; omega) (Nat.zero_le _) ?_; intro v' w8 q1 q2 q3; obtain ⟨B', r1, r2, r3, r4⟩ := T3.out.addDeal ⟨id, level, 1, nw + 1, 0, []⟩ rfl ((Below.refl _ _).alloc (Nat.le_refl _) (.cells #[.int .i64 (id : Int), .int .i64 (level : Int), .int .i64 1, .int .u64 ((nw : Int) + 1), .int .u64 0, .slice none 0 0] 54)) (by have k1 := HV.out.2.1; have k2 := HV.out.2.2.1; rw [k1, ← k2]; exact q1) (by rw [HV.out.1, ← HV.out.2.2.1]; exact q2) (by rw [HV.out.1, ← HV.out.2.2.1]; exact q3); rw [HV.out.1, ← HV.out.2.2.1] at r2; obtain ⟨av8, cp8, rfl, _⟩ := Ow.own_form q1; have T4 := Lib.hid (And.intro r1 r4); clear q1 q2 q3 r1 r4)
      go_ret
      have k := T4.out
      rw [HV.out.2.2.2.2.2] at k
      exact ⟨rfl, B', k.1, k.2⟩
    · cases hr
  · cases hr
end Go.Proofs.YtbefcdjcefmicaaGreat.Em

namespace Go.Proofs.YtbefcdjcefmicaaGreat.Em
open Go.ChangeShapes Go.WideShapes Go.ChangeAt Go.RowKit En
set_option linter.unusedVariables false
set_option linter.unusedSimpArgs false
set_option maxRecDepth 100000
set_option maxHeartbeats 1600000

theorem refOpOk (o : En.Op) (h : opOk o = true) (w : World) : Calls Tryz.prog 33 #[.agg #[.int .i64 (o.kind : Int), .int .i64 (o.key : Int), .int .i64 (o.hi : Int), .int .i64 (o.value : Int)]] w fun e w' => e = .returned (.bool true) ∧ Below w.heap.size w w' := by
  have hb : Below w.heap.size w (w.alloc (.cells #[.int .i64 (o.kind : Int), .int .i64 (o.key : Int), .int .i64 (o.hi : Int), .int .i64 (o.value : Int)] 31)) := (Below.refl _ _).alloc (Nat.le_refl _) _
  have HB := Lib.hid hb
  clear hb
  obtain ⟨kind, key, hi, value⟩ := o
  unfold opOk at h
  simp only at h HB ⊢
  have hk : kind = 1 ∨ kind = 2 ∨ kind = 3 ∨ kind = 4 ∨ kind = 5 ∨ kind = 6 ∨ kind = 7 := by
    by_cases h1 : kind = 1; exact .inl h1
    by_cases h2 : kind = 2; exact .inr (.inl h2)
    by_cases h3 : kind = 3; exact .inr (.inr (.inl h3))
    by_cases h4 : kind = 4; exact .inr (.inr (.inr (.inl h4)))
    by_cases h5 : kind = 5; exact .inr (.inr (.inr (.inr (.inl h5))))
    by_cases h6 : kind = 6; exact .inr (.inr (.inr (.inr (.inr (.inl h6)))))
    by_cases h7 : kind = 7; exact .inr (.inr (.inr (.inr (.inr (.inr h7)))))
    simp [h1, h2, h3, h4, h5, h6, h7] at h
  have p0 : decide ((0 : Int) ≤ (key : Int)) = true := by simp
  have p1 : ((0 : Int) ≤ (key : Int)) = True := by simp
  have p2 : decide ((0 : Int) ≤ (value : Int)) = true := by simp
  have p3 : ((0 : Int) ≤ (value : Int)) = True := by simp
  rcases hk with rfl | rfl | rfl | rfl | rfl | rfl | rfl
  · simp only [Bool.and_eq_true, decide_eq_true_eq, beq_iff_eq] at h
    obtain ⟨⟨hx, rfl⟩, rfl⟩ := h
    have a1 : decide ((key : Int) ≤ (63 : Int)) = true := by simp; omega
    have a2 : ((key : Int) ≤ (63 : Int)) = True := by simp; omega
    clear hx
    go_enter Tryz.func33, Tryz.ntmps33
    go_wp2
    go_ret
    exact ⟨rfl, HB.out⟩
  · simp only [Bool.and_eq_true, decide_eq_true_eq, beq_iff_eq] at h
    obtain ⟨⟨hx, rfl⟩, hy⟩ := h
    have a1 : decide ((key : Int) ≤ (63 : Int)) = true := by simp; omega
    have a2 : ((key : Int) ≤ (63 : Int)) = True := by simp; omega
    have c1 : decide ((value : Int) ≤ (65535 : Int)) = true := by simp; omega
    have c2 : ((value : Int) ≤ (65535 : Int)) = True := by simp; omega
    clear hx hy
    go_enter Tryz.func33, Tryz.ntmps33
    go_wp2
    go_ret
    exact ⟨rfl, HB.out⟩
  · simp only [Bool.and_eq_true, decide_eq_true_eq, beq_iff_eq] at h
    obtain ⟨⟨hx, rfl⟩, hy⟩ := h
    have a1 : decide ((key : Int) ≤ (63 : Int)) = true := by simp; omega
    have a2 : ((key : Int) ≤ (63 : Int)) = True := by simp; omega
    have c1 : decide ((value : Int) ≤ (65535 : Int)) = true := by simp; omega
    have c2 : ((value : Int) ≤ (65535 : Int)) = True := by simp; omega
    clear hx hy
    go_enter Tryz.func33, Tryz.ntmps33
    go_wp2
    go_ret
    exact ⟨rfl, HB.out⟩
  · simp only [Bool.and_eq_true, decide_eq_true_eq, beq_iff_eq] at h
    obtain ⟨⟨hx, rfl⟩, rfl⟩ := h
    have a1 : decide ((key : Int) ≤ (63 : Int)) = true := by simp; omega
    have a2 : ((key : Int) ≤ (63 : Int)) = True := by simp; omega
    clear hx
    go_enter Tryz.func33, Tryz.ntmps33
    go_wp2
    go_ret
    exact ⟨rfl, HB.out⟩
  · simp only [Bool.and_eq_true, decide_eq_true_eq, beq_iff_eq] at h
    obtain ⟨⟨⟨hx, hy⟩, hz⟩, rfl⟩ := h
    have a1 : decide ((key : Int) ≤ (63 : Int)) = true := by simp; omega
    have a2 : ((key : Int) ≤ (63 : Int)) = True := by simp; omega
    have b1 : decide ((key : Int) ≤ (hi : Int)) = true := by simp; omega
    have b2 : ((key : Int) ≤ (hi : Int)) = True := by simp; omega
    have e1 : decide ((hi : Int) ≤ (63 : Int)) = true := by simp; omega
    have e2 : ((hi : Int) ≤ (63 : Int)) = True := by simp; omega
    clear hx hy hz
    go_enter Tryz.func33, Tryz.ntmps33
    go_wp2
    go_ret
    exact ⟨rfl, HB.out⟩
  · simp only [Bool.and_eq_true, decide_eq_true_eq, beq_iff_eq] at h
    obtain ⟨⟨rfl, rfl⟩, rfl⟩ := h
    go_enter Tryz.func33, Tryz.ntmps33
    go_wp2
    go_ret
    exact ⟨rfl, HB.out⟩
  · simp only [Bool.and_eq_true, decide_eq_true_eq, beq_iff_eq] at h
    obtain ⟨⟨rfl, rfl⟩, rfl⟩ := h
    go_enter Tryz.func33, Tryz.ntmps33
    go_wp2
    go_ret
    exact ⟨rfl, HB.out⟩
theorem obj_cell {w : World} {g : Nat} {cs : Array Value} {T : TypeId} (h : w.heap[g]? = some (.cells cs T)) (i : Nat) {v : Value} (hv : cs[i]? = some v) : w.cell? ⟨g, i, none⟩ = some v := by
  rw [cell_of_row w g i _ _ _ h]; exact hv
/-- An Issue that is answered OK, checked. -/
def wIssueOk (W : Wd) (s : Nat) (o : En.Op) : Option Wd :=
  match issueOk W.σ s o with
  | some σ1 => if opOk o = true ∧ W.ids.getD s 0 ≠ 0 ∧ (W.σ.status s).busy = false ∧ ((W.σ.status s).ops < 12 ∨ 6 ≤ o.kind) ∧ (σ1.status s).busy = true then some { W with σ := σ1, ops := W.ops.set s o } else none
  | none => none
theorem worldCs_len {be : Nat} {B : WBook} {W : Wd} (h8 : W.ids.length = 8) (o8 : W.ops.length = 8) : (worldCs be B W).length = 43 := by
  have hl : (W.ops.flatMap opC).length = 32 := by rw [opC_len, o8]
  unfold worldCs
  simp only [List.length_append, List.length_cons, List.length_nil, List.length_map, hl, h8]
theorem WK.there {B : WBook} {be : Nat} {w0 w : World} {ks : List Kept} {W : Wd} (h : WK B be w0 ks W w) {s : Nat} (hs : s < 8) : w.there B.bw (10 + s * 4) 4 := by
  intro j hj
  have hlen := worldCs_len (be := be) (B := B) h.i8 h.o8
  obtain ⟨v, hv⟩ : ∃ v, (worldCs be B W)[10 + s * 4 + j]? = some v := ⟨_, List.getElem?_eq_getElem (by rw [hlen]; omega)⟩
  have := h.wcell _ hv
  exact ⟨by rw [this.1]; rfl, this.2⟩
theorem wissue_any {B : WBook} {be : Nat} {w0 w : World} {ks : List Kept} {W W' : Wd} (h : WK B be w0 ks W w) {s : Nat} (hs : s < 8) (o : En.Op) (hr : wIssueOk W s o = some W') :
    Calls Tryz.prog 21 #[.pointer (some ⟨B.bw, 0, none⟩), .int .i64 (s : Int), .agg #[.int .i64 (o.kind : Int), .int .i64 (o.key : Int), .int .i64 (o.hi : Int), .int .i64 (o.value : Int)]] w fun e w' => e = .returned (.bool true) ∧ WK B be w0 ks W' w' := by
  unfold wIssueOk at hr
  split at hr
  · rename_i σ1 hbe
    split at hr
    · rename_i hh
      obtain ⟨h1, h2, h3, h4, h5⟩ := hh
      obtain rfl := Option.some.inj hr
      obtain ⟨lv, wt, a1, a2, a3, a4, a5, ops, hst, hop⟩ : ∃ lv wt a1 a2 a3 a4 a5, ∃ ops : Nat, statusCs (W.σ.status s) = #[.bool lv, .bool false, .bool wt, .int .i64 a1, .int .i64 a2, .int .i64 a3, .int .u64 a4, .int .u64 a5, .int .i64 (ops : Int)] ∧ ((o.kind < 6 ∧ ops < 12) ∨ 6 ≤ o.kind) := by
        refine ⟨(W.σ.status s).live, (W.σ.status s).waits, ((W.σ.status s).id : Int), ((W.σ.status s).level : Int), ((W.σ.status s).state : Int), ((W.σ.status s).begin_ : Int), ((W.σ.status s).end_ : Int), (W.σ.status s).ops, ?_, by omega⟩
        unfold statusCs
        rw [h3]
      obtain ⟨id, hid, hid0⟩ : ∃ id, id = W.ids.getD s 0 ∧ id ≠ 0 := ⟨_, rfl, h2⟩
      have N1 : Hid (∀ ks w1, WK B be w0 ks W w1 → Calls Tryz.prog 18 #[.pointer (some ⟨be, 0, none⟩), .int .i64 (s : Int)] w1 fun e w' => e = .returned (.agg #[.bool lv, .bool false, .bool wt, .int .i64 a1, .int .i64 a2, .int .i64 a3, .int .u64 a4, .int .u64 a5, .int .i64 (ops : Int)]) ∧ WK B be w0 ks W w') := fun ks w1 q => by
        have hh := status_wk q s hs
        rw [hst] at hh
        exact hh
      have N2 : Hid (∀ ks w1, WK B be w0 ks W w1 → Calls Tryz.prog 17 #[.pointer (some ⟨be, 0, none⟩), .int .i64 (s : Int), .agg #[.int .i64 (o.kind : Int), .int .i64 (o.key : Int), .int .i64 (o.hi : Int), .int .i64 (o.value : Int)]] w1 fun e w' => e = .returned (.int .i64 0) ∧ WK B be w0 ks { W with σ := σ1 } w') := fun ks w1 q => issue_wk q hs hbe
      have N3 : Hid (∀ w1, Calls Tryz.prog 33 #[.agg #[.int .i64 (o.kind : Int), .int .i64 (o.key : Int), .int .i64 (o.hi : Int), .int .i64 (o.value : Int)]] w1 fun e w' => e = .returned (.bool true) ∧ Below w1.heap.size w1 w') := fun w1 => refOpOk o h1 w1
      have N4 : Hid (∀ W2 ks w1, W2.σ = σ1 → WK B be w0 ks W2 w1 → Calls Tryz.prog 18 #[.pointer (some ⟨be, 0, none⟩), .int .i64 (s : Int)] w1 fun e w' => ∃ y1 y2 y3 y4 y5 y6 y7 y8, e = .returned (.agg #[y1, .bool true, y2, y3, y4, y5, y6, y7, y8]) ∧ WK B be w0 ks W2 w') := fun W2 ks w1 e2 q => by
        have hh := status_wk q s hs
        unfold statusCs at hh
        rw [e2, h5] at hh
        exact hh.mono fun e w' x => ⟨_, _, _, _, _, _, _, _, x.1, x.2⟩
      have i8 := h.i8
      have C : Hid (∀ σ' ks w1, WK B be w0 ks { W with σ := σ' } w1 → w1.cell? ⟨B.bw, 0, none⟩ = some (.pointer (some ⟨be, 0, none⟩)) ∧ w1.cell? ⟨B.bw, 2 + s, none⟩ = some (.int .i64 (id : Int))) := fun σ' ks w1 q => by
        have y2 := q.wcell (2 + s) (worldCs_id (W := { W with σ := σ' }) i8 hs)
        rw [show ({ W with σ := σ' } : Wd).ids.getD s 0 = id from hid.symm] at y2
        exact ⟨(q.wcell 0 rfl).1, y2.1⟩
      have D : Hid (∀ ks w1, WK B be w0 ks { W with σ := σ1 } w1 → (∃ u0 u1 u2 u3, w1.cell? ⟨B.bw, 10 + s * 4, none⟩ = some u0 ∧ w1.cell? ⟨B.bw, 10 + s * 4 + 1, none⟩ = some u1 ∧ w1.cell? ⟨B.bw, 10 + s * 4 + 2, none⟩ = some u2 ∧ w1.cell? ⟨B.bw, 10 + s * 4 + 3, none⟩ = some u3 ∧ w1.frozen? ⟨B.bw, 10 + s * 4, none⟩ = false ∧ w1.frozen? ⟨B.bw, 10 + s * 4 + 1, none⟩ = false ∧ w1.frozen? ⟨B.bw, 10 + s * 4 + 2, none⟩ = false ∧ w1.frozen? ⟨B.bw, 10 + s * 4 + 3, none⟩ = false) ∧ WK B be w0 ks { W with σ := σ1, ops := W.ops.set s o } (w1.setCells B.bw (10 + s * 4) [.int .i64 (o.kind : Int), .int .i64 (o.key : Int), .int .i64 (o.hi : Int), .int .i64 (o.value : Int)])) := fun ks w1 q => by
        refine ⟨?_, q.putOp hs o⟩
        obtain ⟨t0, f0⟩ := q.there hs 0 (by omega)
        obtain ⟨t1, f1⟩ := q.there hs 1 (by omega)
        obtain ⟨t2, f2⟩ := q.there hs 2 (by omega)
        obtain ⟨t3, f3⟩ := q.there hs 3 (by omega)
        obtain ⟨u0, k0⟩ := Option.isSome_iff_exists.1 t0
        obtain ⟨u1, k1⟩ := Option.isSome_iff_exists.1 t1
        obtain ⟨u2, k2⟩ := Option.isSome_iff_exists.1 t2
        obtain ⟨u3, k3⟩ := Option.isSome_iff_exists.1 t3
        exact ⟨u0, u1, u2, u3, k0, k1, k2, k3, f0, f1, f2, f3⟩
      -- the parameter's block, the Status' block
      have O0 : Hid (∀ ks W1 w1 g, WK B be w0 (.obj g (.cells #[.int .i64 (o.kind : Int), .int .i64 (o.key : Int), .int .i64 (o.hi : Int), .int .i64 (o.value : Int)] 31) :: ks) W1 w1 → w1.cell? ⟨g, 0, none⟩ = some (.int .i64 (o.kind : Int)) ∧ w1.cell? ⟨g, 1, none⟩ = some (.int .i64 (o.key : Int)) ∧ w1.cell? ⟨g, 2, none⟩ = some (.int .i64 (o.hi : Int)) ∧ w1.cell? ⟨g, 3, none⟩ = some (.int .i64 (o.value : Int))) := fun ks W1 w1 g q => by
        have hb := q.obj (List.mem_cons_self)
        exact ⟨obj_cell hb 0 rfl, obj_cell hb 1 rfl, obj_cell hb 2 rfl, obj_cell hb 3 rfl⟩
      have O1 : Hid (∀ ks W1 w1 g, WK B be w0 (.obj g (.cells #[.bool lv, .bool false, .bool wt, .int .i64 a1, .int .i64 a2, .int .i64 a3, .int .u64 a4, .int .u64 a5, .int .i64 (ops : Int)] 38) :: ks) W1 w1 → w1.cell? ⟨g, 1, none⟩ = some (.bool false) ∧ w1.cell? ⟨g, 8, none⟩ = some (.int .i64 (ops : Int))) := fun ks W1 w1 g q => by
        have hb := q.obj (List.mem_cons_self)
        exact ⟨obj_cell hb 1 rfl, obj_cell hb 8 rfl⟩
      have b0 : ((s : Int) < 0) = False := by simp
      have b1 : ((7 : Int) < (s : Int)) = False := by simp; omega
      have b2 : (0 : Int) ≤ (s : Int) := by omega
      have b3 : (s : Int) < 8 := by omega
      have b4 : decide ((s : Int) < 0) = false := by simp
      have b5 : decide ((7 : Int) < (s : Int)) = false := by simp; omega
      have b6 : (7 < s) = False := by simp; omega
      have e1 : ((id : Int) == 0) = false := by simp; omega
      have e3 : ((id : Int) = 0) = False := by simp; omega
      have e4 : (id = 0) = False := by simp; omega
      have T0 := Lib.hid (h.alloc (.cells #[.int .i64 (o.kind : Int), .int .i64 (o.key : Int), .int .i64 (o.hi : Int), .int .i64 (o.value : Int)] 31))
      have G0 := Lib.hid h.lt
      have x0 := (C.out W.σ _ _ T0.out).1
      obtain ⟨o0, o1, o2, o3⟩ := O0.out _ _ _ _ T0.out
      have HO : Hid (∀ ks W1 w1 g, WK B be w0 (.obj g (.cells #[.bool lv, .bool false, .bool wt, .int .i64 a1, .int .i64 a2, .int .i64 a3, .int .u64 a4, .int .u64 a5, .int .i64 (ops : Int)] 38) :: .obj w.heap.size (.cells #[.int .i64 (o.kind : Int), .int .i64 (o.key : Int), .int .i64 (o.hi : Int), .int .i64 (o.value : Int)] 31) :: ks) W1 w1 → w1.cell? ⟨w.heap.size, 0, none⟩ = some (.int .i64 (o.kind : Int)) ∧ w1.cell? ⟨w.heap.size, 1, none⟩ = some (.int .i64 (o.key : Int)) ∧ w1.cell? ⟨w.heap.size, 2, none⟩ = some (.int .i64 (o.hi : Int)) ∧ w1.cell? ⟨w.heap.size, 3, none⟩ = some (.int .i64 (o.value : Int))) := fun ks W1 w1 g q => O0.out _ _ _ _ q.tail
      clear h hr hbe h1 h2 h3 h4 h5 hst i8 hid hid0 hs
      have hd : (decide ((o.kind : Int) < 6) = true ∧ ((o.kind : Int) < 6) = True ∧ (o.kind < 6) = True ∧ decide ((12 : Int) ≤ (ops : Int)) = false ∧ ((12 : Int) ≤ (ops : Int)) = False ∧ (12 ≤ ops) = False) ∨ (decide ((o.kind : Int) < 6) = false ∧ ((o.kind : Int) < 6) = False ∧ (o.kind < 6) = False) := by
        rcases hop with hop | hop
        · exact .inl ⟨by simp; omega, by simp; omega, by simp; omega, by simp; omega, by simp; omega, by simp; omega⟩
        · exact .inr ⟨by simp; omega, by simp; omega, by simp; omega⟩
      rcases hd with ⟨d1, d2, d3, d4, d5, d6⟩ | ⟨d1, d2, d3⟩
      all_goals (
        clear hop
        go_enter Tryz.func21, Tryz.ntmps21
        go_upto_region 2 with (go_at_call 18; refine (N1.out _ _ T0.out).mono ?_; rintro e w1 ⟨rfl, q⟩; have T1 := Lib.hid (q.alloc (.cells #[.bool lv, .bool false, .bool wt, .int .i64 a1, .int .i64 a2, .int .i64 a3, .int .u64 a4, .int .u64 a5, .int .i64 (ops : Int)] 38)); clear q T0)
        generalize w1.alloc _ = v1 at *
        generalize w1.heap.size = g1 at *
        generalize w.heap.size = g0 at *
        have T1d := Lib.hid T1.out.drew
        obtain ⟨u0, u1⟩ := C.out W.σ _ _ T1.out
        obtain ⟨p0, p1, p2, p3⟩ := HO.out _ _ _ _ T1.out
        obtain ⟨p4, p5⟩ := O1.out _ _ _ _ T1.out
        have HK2 : Hid (∀ w', WK B be w0 (.obj g1 (.cells #[.bool lv, .bool false, .bool wt, .int .i64 a1, .int .i64 a2, .int .i64 a3, .int .u64 a4, .int .u64 a5, .int .i64 (ops : Int)] 38) :: .obj g0 (.cells #[.int .i64 (o.kind : Int), .int .i64 (o.key : Int), .int .i64 (o.hi : Int), .int .i64 (o.value : Int)] 31) :: ks) { W with σ := σ1 } w' → w'.cell? ⟨B.bw, 0, none⟩ = some (.pointer (some ⟨be, 0, none⟩)) ∧ w'.cell? ⟨g0, 0, none⟩ = some (.int .i64 (o.kind : Int)) ∧ w'.cell? ⟨g0, 1, none⟩ = some (.int .i64 (o.key : Int)) ∧ w'.cell? ⟨g0, 2, none⟩ = some (.int .i64 (o.hi : Int)) ∧ w'.cell? ⟨g0, 3, none⟩ = some (.int .i64 (o.value : Int))) := fun w' q => by
          obtain ⟨c0, c1⟩ := C.out σ1 _ _ q
          obtain ⟨d0, d1, d2, d3⟩ := HO.out _ _ _ _ q
          exact ⟨c0, d0, d1, d2, d3⟩
        clear x0 o0 o1 o2 o3
        go_region_held3 (fun w' => w'.cell? ⟨B.bw, 0, none⟩ = some (.pointer (some ⟨be, 0, none⟩)) ∧ w'.cell? ⟨g0, 0, none⟩ = some (.int .i64 (o.kind : Int)) ∧ w'.cell? ⟨g0, 1, none⟩ = some (.int .i64 (o.key : Int)) ∧ w'.cell? ⟨g0, 2, none⟩ = some (.int .i64 (o.hi : Int)) ∧ w'.cell? ⟨g0, 3, none⟩ = some (.int .i64 (o.value : Int)))
          (first | exact ⟨u0, p0, p1, p2, p3⟩ | assumption | go_keep | exact HK2.out _ (by assumption))
          (first | (go_at_call 17; refine (N2.out _ _ T1d.out).mono ?_; rintro e w2 ⟨rfl, q⟩))
        obtain ⟨x0, x1⟩ := C.out σ1 _ _ q
        obtain ⟨y0, y1, y2, y3⟩ := HO.out _ _ _ _ q
        obtain ⟨y4, y5⟩ := O1.out _ _ _ _ q
        have T2 := Lib.hid q
        clear q T1 T1d u0 u1 p0 p1 p2 p3 p4 p5 HK2
        go_upto_region 17 with (go_at_call 33; refine (N3.out _).mono ?_; rintro e w3 ⟨rfl, hb⟩; have q3 := T2.out.below hb; obtain ⟨x0', x1'⟩ := C.out σ1 _ _ q3; obtain ⟨z0, z1, z2, z3⟩ := HO.out _ _ _ _ q3; obtain ⟨z4, z5⟩ := O1.out _ _ _ _ q3; have T3 := Lib.hid q3; clear q3 hb)
        obtain ⟨⟨u0, u1, u2, u3, k0, k1, k2, k3, f0, f1, f2, f3⟩, m2⟩ := D.out _ _ T3.out
        have T4 := Lib.hid m2
        clear m2
        go_region
        have T5 : Hid (WK B be w0 _ { W with σ := σ1, ops := W.ops.set s o } (World.drew ((((w3.setCell ⟨B.bw, 10 + s * 4, none⟩ (.int .i64 (o.kind : Int))).setCell ⟨B.bw, 10 + s * 4 + 1, none⟩ (.int .i64 (o.key : Int))).setCell ⟨B.bw, 10 + s * 4 + 2, none⟩ (.int .i64 (o.hi : Int))).setCell ⟨B.bw, 10 + s * 4 + 3, none⟩ (.int .i64 (o.value : Int))))) := Lib.hid T4.out.drew
        clear T4 T3 T2 k0 k1 k2 k3 f0 f1 f2 f3 z0 z1 z2 z3 z4 z5 x0 x1 x0' x1' y0 y1 y2 y3 y4 y5
        generalize World.drew _ = w5 at *
        have x0 := (T5.out.wcell 0 rfl).1
        go_wp2_with (go_at_call 18; refine (N4.out _ _ _ rfl T5.out).mono ?_; rintro e w6 ⟨y1, y2, y3, y4, y5, y6, y7, y8, rfl, q⟩; have hf := fld_busy (.bool true) y1 y2 y3 y4 y5 y6 y7 y8; have T6 := Lib.hid q; clear q T5)
        go_ret
        exact ⟨rfl, T6.out.tail.tail⟩
      )
    · cases hr
  · cases hr
/-- A World of an engine of nothing. -/
def wNew (n l : Nat) : Wd := { σ := new n l, deals := [], ids := List.replicate 8 0, ops := List.replicate 8 ⟨0, 0, 0, 0⟩, gone := [] }
theorem wk_new {be : Nat} {w0 w : World} {σ : St} (h : EKt be w0 [] σ w) : WK ⟨lab1 (fun _ => none) w.heap.size .eng, w.heap.size, .slice none 0 0, .slice none 0 0, [], fun _ => []⟩ be w0 [] { σ := σ, deals := [], ids := List.replicate 8 0, ops := List.replicate 8 ⟨0, 0, 0, 0⟩, gone := [] } (w.alloc (.cells (worldCs be ⟨lab1 (fun _ => none) w.heap.size .eng, w.heap.size, .slice none 0 0, .slice none 0 0, [], fun _ => []⟩ { σ := σ, deals := [], ids := List.replicate 8 0, ops := List.replicate 8 ⟨0, 0, 0, 0⟩, gone := [] }).toArray 35)) := by
  obtain ⟨A, rfl, l, g, _⟩ := h.ex
  obtain ⟨_, g1, t1, t2⟩ := l.rep.newTmp (.cells (worldCs A.be ⟨lab1 (fun _ => none) w.heap.size .eng, w.heap.size, .slice none 0 0, .slice none 0 0, [], fun _ => []⟩ { σ := σ, deals := [], ids := List.replicate 8 0, ops := List.replicate 8 ⟨0, 0, 0, 0⟩, gone := [] }).toArray 35)
  refine ⟨A.tmp w.heap.size, rfl, l.newTmp _, ⟨fun b r hb => ?_, ⟨fun q => ?_, fun b hb => ?_⟩, (fun k p hk => by cases hk), rfl, rfl, rfl⟩, g.trans g1, trivial⟩
  · by_cases hbb : b = w.heap.size
    · subst hbb; exact t1
    · replace hb : lab1 (fun _ => none) w.heap.size Role.eng b = some r := hb
      rw [lab1_other hbb] at hb; cases hb
  · cases q with
    | eng => exact ⟨(lab1_same _ _ _ : lab1 (fun _ => none) w.heap.size Role.eng w.heap.size = _), t2⟩
    | tale => exact ⟨World.ownsRow_nil _ _ _ _, fun g hg => by cases hg⟩
    | free => exact ⟨World.ownsRow_nil _ _ _ _, fun g hg => by cases hg⟩
    | reads k => exact trivial
    | _ => exact trivial
  · have : w.heap.size + 1 ≤ b := by simpa using hb
    exact (lab1_other (by omega) : lab1 (fun _ => none) w.heap.size Role.eng b = none)
theorem wnew_any (n l : Nat) (h1 : 1 ≤ n) (h2 : n ≤ 256) (h3 : 1 ≤ l) (h4 : l ≤ 1099511627776) (w : World) :
    Calls Tryz.prog 15 #[.int .i64 (n : Int), .int .u64 (l : Int)] w fun e w' => ∃ B be, e = .returned (.pointer (some ⟨B.bw, 0, none⟩)) ∧ WK B be w [] (wNew n l) w' := by
  have HN : Hid (Calls Tryz.prog 26 #[.agg #[.int .i64 (n : Int), .int .u64 (l : Int)]] w fun e w' => ∃ b, e = .returned (.tuple #[.pointer (some ⟨b, 0, none⟩), .int .i64 0]) ∧ EKt b w [] (new n l) w') := (new_at n l h1 h2 h3 h4 w).mono fun e w' ⟨b, h, q⟩ => ⟨b, h, q.kt⟩
  clear h1 h2 h3 h4
  go_enter Tryz.func15, Tryz.ntmps15
  go_wp2_with (go_at_call 26; refine HN.out.mono ?_; rintro e w1 ⟨be, rfl, q⟩; have T1 := Lib.hid q; clear q)
  go_ret
  exact ⟨_, _, rfl, wk_new T1.out⟩
end Go.Proofs.YtbefcdjcefmicaaGreat.Em
