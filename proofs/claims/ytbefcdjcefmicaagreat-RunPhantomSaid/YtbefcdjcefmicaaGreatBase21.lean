/- Texts of this claim, laid together: Lk, Msk. -/
import Derived.Test.YtbefcdjcefmicaaGreatBase20
import Derived.Test.YtbefcdjcefmicaaGreatBase15
import Derived.Test.YtbefcdjcefmicaaGreatBase18
import Derived.Test.YtbefcdjcefmicaaGreatBase19
import Derived.Test.YtbefcdjcefmicaaGreatProg
import Derived.Test.YtbefcdjcefmicaaGreatBase3
import Derived.WalkKit
import Derived.Deep.Cut
namespace Go.Proofs.YtbefcdjcefmicaaGreat.Em
open Go.ChangeShapes Go.WideShapes Go.ChangeAt Go.RowKit En
set_option linter.unusedVariables false
set_option linter.unusedSimpArgs false
set_option maxRecDepth 100000
set_option maxHeartbeats 1600000

/-- What a law holds beside the engine: a block, or a row. -/
inductive Kept where
  | obj (k : Nat) (o : Obj)
  | row (size : Nat) (v : Value) (xs : List Value)
def Kept.holds (L : Lab) (w : World) : Kept → Prop
  | .obj k o => Fix L w k o
  | .row size v xs => FRow L w size v xs
theorem Kept.grow {L L' : Lab} {w w' : World} (g : Grow L w L' w') : ∀ {k : Kept}, k.holds L w → k.holds L' w'
  | .obj _ _, h => Fix.grow h g
  | .row _ _ _, h => FRow.grow h g
def Kepts (L : Lab) (w : World) : List Kept → Prop
  | [] => True
  | k :: ks => k.holds L w ∧ Kepts L w ks
theorem Kepts.grow {L L' : Lab} {w w' : World} (g : Grow L w L' w') : ∀ {ks : List Kept}, Kepts L w ks → Kepts L' w' ks
  | [], _ => trivial
  | _ :: _, ⟨h, t⟩ => ⟨Kept.grow g h, Kepts.grow g t⟩
structure EKt (b : Nat) (w0 : World) (ks : List Kept) (σ : St) (w : World) : Prop where
  ex : ∃ A : Book, A.be = b ∧ Live A σ w ∧ Grow (fun _ => none) w0 A.L w ∧ Kepts A.L w ks
theorem EAt.kt {b : Nat} {w0 w : World} {σ : St} (h : EAt b w0 σ w) : EKt b w0 [] σ w := let ⟨A, e, l, g⟩ := h.ex; ⟨A, e, l, g, trivial⟩
theorem EKt.at {b : Nat} {w0 w : World} {σ : St} {ks : List Kept} (h : EKt b w0 ks σ w) : EAt b w0 σ w := let ⟨A, e, l, g, _⟩ := h.ex; ⟨A, e, l, g⟩
theorem EKt.toBelow {b : Nat} {w0 w : World} {σ : St} {ks : List Kept} (h : EKt b w0 ks σ w) : Below w0.heap.size w0 w := h.at.toBelow
theorem EKt.tail {b : Nat} {w0 w : World} {σ : St} {k : Kept} {ks : List Kept} (h : EKt b w0 (k :: ks) σ w) : EKt b w0 ks σ w := let ⟨A, e, l, g, _, t⟩ := h.ex; ⟨A, e, l, g, t⟩
theorem EKt.below {b : Nat} {w0 w w' : World} {σ : St} {ks : List Kept} (h : EKt b w0 ks σ w) (hb : Below w.heap.size w w') : EKt b w0 ks σ w' :=
  let ⟨A, e, l, g, t⟩ := h.ex
  ⟨A, e, l.below hb, g.trans (Grow.below hb), Kepts.grow (Grow.below hb) t⟩
theorem EKt.alloc {b : Nat} {w0 w : World} {σ : St} {ks : List Kept} (h : EKt b w0 ks σ w) (o : Obj) : EKt b w0 (.obj w.heap.size o :: ks) σ (w.alloc o) :=
  let ⟨A, e, l, g, t⟩ := h.ex
  ⟨A, e, l.alloc _, g.trans (Grow.alloc _ _ _), fix_next l.rep.mem.fresh _ rfl, Kepts.grow (Grow.alloc _ _ _) t⟩
theorem EKt.own {b : Nat} {w0 w w' : World} {σ : St} {ks : List Kept} {T : TypeId} {size n : Nat} {v : Value} {xs : List Value} (h : EKt b w0 ks σ w) (hb : Below w.heap.size w w') (ho : w'.ownsRow w.heap.size T size v n xs) : EKt b w0 (.row size v xs :: ks) σ w' := by
  obtain ⟨A, e, l, g, t⟩ := h.ex
  refine ⟨A, e, l.below hb, g.trans (Grow.below hb), ?_, Kepts.grow (Grow.below hb) t⟩
  obtain ⟨a, c, rfl, h1, h2, h3⟩ := Ow.own_form ho
  obtain ⟨a', n', c', e0, k1, k2, k3, k4⟩ := h3
  simp only [Value.slice.injEq] at e0
  obtain ⟨rfl, rfl, rfl⟩ := e0
  refine ⟨a, n, c, rfl, k1, h1, by unfold maxLen; omega, ?_⟩
  rcases k4 with k4 | ⟨g', off, e1, e2, e3, e4⟩
  · exact .inl k4
  · exact .inr ⟨g', off, e1, l.rep.mem.fresh g' e2, e3, e4⟩
theorem Kepts.obj {L : Lab} {w : World} {k : Nat} {o : Obj} {ks : List Kept} (h : Kepts L w (.obj k o :: ks)) : w.heap[k]? = some o := h.1.2
theorem EKt.obj {b : Nat} {w0 w : World} {σ : St} {ks : List Kept} {k : Nat} {o : Obj} (h : EKt b w0 ks σ w) (hm : .obj k o ∈ ks) : w.heap[k]? = some o := by
  obtain ⟨A, _, _, _, t⟩ := h.ex
  induction ks with
  | nil => cases hm
  | cons x ks ih =>
    rcases List.mem_cons.1 hm with rfl | hm
    · exact t.1.2
    · exact ih h.tail hm t.2
theorem EKt.row {b : Nat} {w0 w : World} {σ : St} {ks : List Kept} {size : Nat} {v : Value} {xs : List Value} (h : EKt b w0 ks σ w) (hm : .row size v xs ∈ ks) : Ow.Row w 0 size v xs := by
  obtain ⟨A, _, _, _, t⟩ := h.ex
  induction ks with
  | nil => cases hm
  | cons x ks ih =>
    rcases List.mem_cons.1 hm with rfl | hm
    · exact FRow.row t.1
    · exact ih h.tail hm t.2
def EV (b : Nat) (w0 : World) (ks : List Kept) (σ : St) (v : Value) : Ending → World → Prop := fun e w' => e = .returned v ∧ EKt b w0 ks σ w'
theorem begin_kt {b : Nat} {w0 w : World} {ks : List Kept} {σ σ1 : St} (h : EKt b w0 ks σ w) {s level id : Nat} (hs : s < 8) (hr : beginOk σ s level = some (σ1, id)) :
    Calls Tryz.prog 41 #[.pointer (some ⟨b, 0, none⟩), .int .i64 (s : Int), .int .i64 (level : Int)] w (EV b w0 ks σ1 (.tuple #[.int .i64 (id : Int), .int .i64 0])) := by
  obtain ⟨A, rfl, hL, g, t⟩ := h.ex
  refine (begin_to hs hr A w hL).mono ?_
  rintro e w' ⟨A', rfl, hL', g', e'⟩
  exact ⟨rfl, A', e', hL', g.trans g', Kepts.grow g' t⟩
theorem issue_kt {b : Nat} {w0 w : World} {ks : List Kept} {σ σ1 : St} (h : EKt b w0 ks σ w) {s : Nat} {o : En.Op} (hs : s < 8) (hr : issueOk σ s o = some σ1) :
    Calls Tryz.prog 17 #[.pointer (some ⟨b, 0, none⟩), .int .i64 (s : Int), .agg #[.int .i64 (o.kind : Int), .int .i64 (o.key : Int), .int .i64 (o.hi : Int), .int .i64 (o.value : Int)]] w (EV b w0 ks σ1 (.int .i64 0)) := by
  obtain ⟨A, rfl, hL, g, t⟩ := h.ex
  refine (issue_to hs hr A w hL).mono ?_
  rintro e w' ⟨A', rfl, hL', g', e'⟩
  exact ⟨rfl, A', e', hL', g.trans g', Kepts.grow g' t⟩
theorem do_kt {b : Nat} {w0 w : World} {ks : List Kept} {σ σ1 σ2 : St} (h : EKt b w0 ks σ w) {s F err : Nat} {o : En.Op} {r : Res} (hs : s < 8) (hi : issueOk σ s o = some σ1) (hF : F ≤ 13824000) (hr : runDo F σ1 s = some (σ2, r, err)) :
    Calls Tryz.prog 37 #[.pointer (some ⟨b, 0, none⟩), .int .i64 (s : Int), .agg #[.int .i64 (o.kind : Int), .int .i64 (o.key : Int), .int .i64 (o.hi : Int), .int .i64 (o.value : Int)]] w (fun e w' => ∃ va vn vc, e = .returned (.tuple #[.agg #[.int .i64 (r.e : Int), .int .i64 (r.value : Int), .slice va vn vc, .int .i64 (r.over : Int), .int .i64 (r.reason : Int)], .int .i64 (err : Int)]) ∧ vn = r.pairs.length ∧ EKt b w0 (.row 2 (.slice va vn vc) (pairCs r.pairs) :: ks) σ2 w') := by
  obtain ⟨A, rfl, hL, g, t⟩ := h.ex
  refine (do_any hL s hs o σ1 (issue_to hs hi) F hF σ2 r err hr).mono ?_
  rintro e w' ⟨A', vp, rfl, hf, hL', g', e'⟩
  obtain ⟨va, vn, vc, rfl⟩ := frow_form hf
  have hvn : vn = r.pairs.length := by
    obtain ⟨a, n, c, e0, h1, _⟩ := hf
    simp only [Value.slice.injEq] at e0
    rw [pairCs_len] at h1
    omega
  exact ⟨va, vn, vc, rfl, hvn, A', e', hL', g.trans g', hf, Kepts.grow g' t⟩
theorem step_kt {b : Nat} {w0 w : World} {ks : List Kept} {σ σ1 : St} (h : EKt b w0 ks σ w) {s kd : Nat} {r : Res} (hs : s < 8) (hr : oneStep σ s = some (σ1, kd, r)) :
    Calls Tryz.prog 19 #[.pointer (some ⟨b, 0, none⟩), .int .i64 (s : Int)] w (fun e w' => ∃ va vn vc, e = .returned (.tuple #[.agg #[.int .i64 (kd : Int), .int .i64 (r.e : Int), .int .i64 (r.value : Int), .slice va vn vc, .int .i64 (r.over : Int), .int .i64 (r.reason : Int)], .int .i64 0]) ∧ vn = r.pairs.length ∧ EKt b w0 (.row 2 (.slice va vn vc) (pairCs r.pairs) :: ks) σ1 w') := by
  obtain ⟨A, rfl, hL, g, t⟩ := h.ex
  refine (step_calls hL hs hr).mono ?_
  rintro e w' ⟨A', vp, rfl, hf, hL', g', e'⟩
  obtain ⟨va, vn, vc, rfl⟩ := frow_form hf
  have hvn : vn = r.pairs.length := by
    obtain ⟨a, n, c, e0, h1, _⟩ := hf
    simp only [Value.slice.injEq] at e0
    rw [pairCs_len] at h1
    omega
  exact ⟨va, vn, vc, rfl, hvn, A', e', hL', g.trans g', hf, Kepts.grow g' t⟩
theorem prep_kt {b : Nat} {w0 w : World} {ks : List Kept} {σ σ2 : St} (h : EKt b w0 ks σ w) {s F : Nat} {x : Bool} (hs : s < 8) (hF : F ≤ 13824000) (hr : runPrep F σ s = some (σ2, x)) :
    Calls Tryz.prog 43 #[.pointer (some ⟨b, 0, none⟩), .int .i64 (s : Int)] w (EV b w0 ks σ2 (.bool x)) := by
  obtain ⟨A, rfl, hL, g, t⟩ := h.ex
  refine (prep_any hL s hs F hF σ2 x hr).mono ?_
  rintro e w' ⟨rfl, A', hL', g', e'⟩
  exact ⟨rfl, A', e', hL', g.trans g', Kepts.grow g' t⟩
theorem end_kt {b : Nat} {w0 w : World} {ks : List Kept} {σ σ2 : St} (h : EKt b w0 ks σ w) {F n : Nat} {x : Bool} (hr : runEnd (List.range 8) (mostOf σ.live.length) F σ 0 = some (σ2, n, x)) :
    Calls Tryz.prog 44 #[.pointer (some ⟨b, 0, none⟩), .slice none 0 0] w (EV b w0 ks σ2 (.tuple #[.int .i64 (n : Int), .bool x])) := by
  obtain ⟨A, rfl, hL, g, t⟩ := h.ex
  refine (end_any hL [] none 0 (FRow.nil _ _ _) (by simp) F σ2 n x (by rw [show roundOf [] = List.range 8 from rfl]; exact hr)).mono ?_
  rintro e w' ⟨rfl, A', hL', g', e'⟩
  exact ⟨rfl, A', e', hL', g.trans g', Kepts.grow g' t⟩
theorem status_kt {b : Nat} {w0 w : World} {ks : List Kept} {σ : St} (h : EKt b w0 ks σ w) (s : Nat) (hs : s < 8) :
    Calls Tryz.prog 18 #[.pointer (some ⟨b, 0, none⟩), .int .i64 (s : Int)] w (EV b w0 ks σ (.agg (statusCs (σ.status s)))) := by
  obtain ⟨A, rfl, hL, g, t⟩ := h.ex
  refine (status_any hL s hs).mono ?_
  rintro e w' ⟨rfl, hb⟩
  exact ⟨rfl, EKt.below ⟨A, rfl, hL, g, t⟩ hb⟩
theorem live_kt {b : Nat} {w0 w : World} {ks : List Kept} {σ : St} (h : EKt b w0 ks σ w)  :
    Calls Tryz.prog 30 #[.pointer (some ⟨b, 0, none⟩)] w (fun e w' => ∃ av cap, e = .returned (.slice av σ.live.length cap) ∧ EKt b w0 ks σ w') := by
  obtain ⟨A, rfl, hL, g, t⟩ := h.ex
  refine (liveRow_any hL.rep).mono ?_
  rintro e w' ⟨av, cap, rfl, _, hb⟩
  exact ⟨av, cap, rfl, EKt.below ⟨A, rfl, hL, g, t⟩ hb⟩
theorem now_kt {b : Nat} {w0 w : World} {ks : List Kept} {σ : St} (h : EKt b w0 ks σ w) (hx : σ.word 0 < 18446744073709551616) :
    Calls Tryz.prog 27 #[.pointer (some ⟨b, 0, none⟩)] w (EV b w0 ks σ (.int .u64 (σ.now : Int))) := by
  obtain ⟨A, rfl, hL, g, t⟩ := h.ex
  refine (now_any hL.rep hx).mono ?_
  rintro e w' ⟨rfl, hb⟩
  exact ⟨rfl, EKt.below ⟨A, rfl, hL, g, t⟩ hb⟩
theorem pairs_kt {b : Nat} {w0 w : World} {ks : List Kept} {σ : St} (h : EKt b w0 ks σ w) (hok : okPairs σ = true) :
    Calls Tryz.prog 32 #[.pointer (some ⟨b, 0, none⟩)] w (fun e w' => ∃ av cap, e = .returned (.slice av σ.pairs.length cap) ∧ EKt b w0 (.row 2 (.slice av σ.pairs.length cap) (pairCs σ.pairs) :: ks) σ w') := by
  obtain ⟨A, rfl, hL, g, t⟩ := h.ex
  refine (pairs_any hL.rep hok).mono ?_
  rintro e w' ⟨av, cap, rfl, ho, hb⟩
  exact ⟨av, cap, rfl, EKt.own ⟨A, rfl, hL, g, t⟩ hb ho⟩
theorem used_kt {b : Nat} {w0 w : World} {ks : List Kept} {σ : St} (h : EKt b w0 ks σ w) (hn : σ.free.length < 100000) (hu : σ.list.free.length + σ.worn ≤ σ.slots) :
    Calls Tryz.prog 28 #[.pointer (some ⟨b, 0, none⟩)] w (EV b w0 ks σ.list (.int .i64 (σ.used : Int))) := by
  obtain ⟨A, rfl, hL, g, t⟩ := h.ex
  refine (used_any hL.rep hL.mp hn hu).mono ?_
  rintro e w' ⟨rfl, A', ⟨⟨L, v, m, rfl⟩, pm⟩, hR', g'⟩
  have hc : σ.list.calls = σ.calls := by unfold St.list; split <;> rfl
  have ek : ∀ s, kp { A with L := L, vfree := v, mp := m } σ.list s = kp A σ s := fun s => by unfold kp St.c; rw [hc]
  refine ⟨rfl, { A with L := L, vfree := v, mp := m }, rfl, ⟨hR', pm.trans hL.mp, hL.mt, fun s h c hcs => ?_, fun s h hcs => hL.idle s h (by rw [← hc]; exact hcs)⟩, g.trans g', Kepts.grow g' t⟩
  obtain ⟨e1, k, e2, e3⟩ := hL.call s h c (by rw [← hc]; exact hcs)
  exact ⟨e1, k, e2, by rw [ek]; exact e3.grow g'⟩
theorem stLive_kt {b : Nat} {w0 w : World} {ks : List Kept} {σ : St} (h : EKt b w0 ks σ w) (s : Nat) (hs : s < 8) :
    Calls Tryz.prog 18 #[.pointer (some ⟨b, 0, none⟩), .int .i64 (s : Int)] w fun e w' => ∃ y1 y2 y3 y4 y5 y6 y7 y8, e = .returned (.agg #[.bool (σ.status s).live, y1, y2, y3, y4, y5, y6, y7, y8]) ∧ EKt b w0 ks σ w' :=
  (status_kt h s hs).mono fun e w' hh => ⟨_, _, _, _, _, _, _, _, hh.1, hh.2⟩
/-- What a whole transaction answers: a row of results, each number at its place. -/
def WKt (b : Nat) (w0 : World) (ks : List Kept) (σ' : St) (rs : List Res) (err : Nat) : Ending → World → Prop := fun e w' =>
  ∃ rb ro rc, e = .returned (.tuple #[.slice (some ⟨rb, ro, none⟩) rs.length rc, .int .i64 (err : Int)]) ∧ EKt b w0 ks σ' w' ∧ ∀ k r, rs[k]? = some r →
    w'.cell? ⟨rb, ro + 5 * k, none⟩ = some (.int .i64 (r.e : Int)) ∧ w'.cell? ⟨rb, ro + 5 * k + 1, none⟩ = some (.int .i64 (r.value : Int)) ∧ w'.cell? ⟨rb, ro + 5 * k + 3, none⟩ = some (.int .i64 (r.over : Int)) ∧ w'.cell? ⟨rb, ro + 5 * k + 4, none⟩ = some (.int .i64 (r.reason : Int))
theorem whole_kt {b : Nat} {w0 w : World} {ks : List Kept} {σ σ' : St} (h : EKt b w0 ks σ w) {s level F err : Nat} {ops : List En.Op} {rs : List Res} (xs : Array Value) (n : Nat) (hs : s < 8) (hF : F ≤ 13824000) (hr : runWhole F σ s level ops = some (σ', rs, err)) (hx : xs = (opsCs ops).toArray) (hl : ops.length = n) (hn : n ≤ 1000) (hrs : 0 < rs.length) :
    Calls Tryz.prog 34 #[.pointer (some ⟨b, 0, none⟩), .int .i64 (s : Int), .int .i64 (level : Int), .slice (some ⟨w.heap.size, 0, none⟩) n n] (w.alloc (.cells xs 31)) (WKt b w0 ks σ' rs err) := by
  obtain ⟨A, rfl, hL, g, t⟩ := h.ex
  have hol : ∀ l : List En.Op, (opsCs l).length = l.length * 4 := fun l => by induction l with | nil => rfl | cons o l ih => simp [opsCs, ih]; omega
  subst hx
  refine (whole_any (hL.alloc _) s hs level ops _ n n (frow_block (xs := opsCs ops) (fix_next hL.rep.mem.fresh _ rfl) (by rw [hol, hl]) (by omega)) (by omega) F hF σ' rs err hr).mono ?_
  rintro e w' ⟨A', vo, cs, rfl, p1, p2, p3, p4, p5⟩
  obtain ⟨⟨a, m, cap, rfl, hlen, _, _, h5⟩, _⟩ := p1
  obtain ⟨q1, q2⟩ := resRow_get rs cs p2
  obtain rfl : m = rs.length := by omega
  rcases h5 with h5 | ⟨rb, ro, rfl, _, _, hc⟩
  · exact absurd h5 (by omega)
  · refine ⟨rb, ro, cap, rfl, ⟨A', p5, p3, (g.trans (Grow.alloc _ _ _)).trans p4, Kepts.grow ((Grow.alloc _ _ _).trans p4) t⟩, fun k r hk => ?_⟩
    obtain ⟨z0, z1, z3, z4⟩ := q2 k r hk
    have hcc : ∀ j v, cs[j]? = some v → w'.cell? ⟨rb, ro + j, none⟩ = some v := fun j v hj => by
      have hj' : j < cs.length := by
        rcases Nat.lt_or_ge j cs.length with h | h
        · exact h
        · rw [List.getElem?_eq_none h] at hj; cases hj
      exact (hc j (by omega)).trans hj
    exact ⟨hcc _ _ z0, hcc _ _ z1, hcc _ _ z3, hcc _ _ z4⟩
end Go.Proofs.YtbefcdjcefmicaaGreat.Em

namespace Go.Proofs.YtbefcdjcefmicaaGreat.Em
open Go.ChangeShapes Go.WideShapes Go.ChangeAt Go.RowKit
theorem mask_to (x : Int) (m : Nat) (hm : 0 < m) : ∃ n : Nat, n < m ∧ (bits .and .i64 x 255).tmod (m : Int) = (n : Int) := by
  rw [Bt.i64_and255]
  have h0 : 0 ≤ x % 256 := Int.emod_nonneg _ (by decide)
  have h1 := Int.tmod_nonneg (m : Int) h0
  have h2 := Int.tmod_lt_of_pos (x % 256) (b := (m : Int)) (by omega)
  exact ⟨((x % 256).tmod m).toNat, by omega, by omega⟩
theorem row_new' (w : World) (xs : List Value) (T : TypeId) (n size g : Nat) (hg : g = w.heap.size) (hl : xs.length = n * size) (hn : n ≤ 1000000) : Ow.Row (w.alloc (.cells xs.toArray T)) 0 size (.slice (some ⟨g, 0, none⟩) n n) xs := by
  subst hg
  exact row_new w xs T n size hl hn
theorem cell_alloc_old {w : World} (o : Obj) (a : Addr) (h : a.block < w.heap.size) : (w.alloc o).cell? a = w.cell? a := by
  simp only [World.cell?]
  rw [heap_alloc_old _ _ h]
theorem EKt.drew1 {b : Nat} {w0 w : World} {σ : En.St} {ks : List Kept} (h : EKt b w0 ks σ w) : EKt b w0 ks σ w.drew := h.below ((Below.refl _ _).drew)
end Go.Proofs.YtbefcdjcefmicaaGreat.Em
