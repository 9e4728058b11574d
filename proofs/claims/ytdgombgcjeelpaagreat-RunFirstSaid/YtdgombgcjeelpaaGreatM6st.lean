/- Texts of this claim, laid together: Pc, Hf, Hg, He, Ka, Slt. -/
import Derived.Test.YtdgombgcjeelpaaGreatM5st
import Derived.Deep.MidRow
namespace Go.Proofs.YtdgombgcjeelpaaGreat.Em
open Go.ChangeShapes Go.WideShapes Go.ChangeAt Go.RowKit En
set_option linter.unusedVariables false
set_option linter.unusedSimpArgs false
set_option maxRecDepth 100000
set_option maxHeartbeats 1600000

theorem own_drop {w : World} {e : TypeId} {n : Nat} {v : Value} {xs : List Value} (h : w.ownsRow 0 e 1 v n xs) (hn : 0 < n) : ∃ g cap, v = .slice (some ⟨g, 0, none⟩) n cap ∧ n ≤ cap ∧ cap ≤ 9223372036854775807 ∧ w.ownsRow 0 e 1 (.slice (some ⟨g, 0, none⟩) (n - 1) cap) (n - 1) xs.dropLast ∧ (∀ j u, xs[j]? = some u → w.cell? ⟨g, j, none⟩ = some u) := by
  have hc := fun g hg => h.cells (g := g) hg
  rcases h.2 with ⟨rfl, h0⟩ | ⟨g, cap, cur, rfl, hb, hg, hnc, hcm, hcs, htake⟩
  · omega
  · have hcm' := hcm
    unfold maxLen at hcm'
    refine ⟨g, cap, rfl, hnc, hcm', ⟨by rw [List.length_dropLast, h.1]; omega, .inr ⟨g, cap, cur, rfl, hb, hg, by omega, hcm, hcs, ?_⟩⟩, fun j u hj => ?_⟩
    · rw [← htake, List.dropLast_eq_take, List.take_take]
      congr 1
      have : (cur.toList.take (n * 1)).length = n := by rw [htake, h.1]; omega
      omega
    · have := hc g rfl j u hj
      have hadd : (⟨g, 0, none⟩ : Addr).add j = ⟨g, j, none⟩ := by unfold Addr.add; split <;> simp_all
      rw [hadd] at this
      exact this
def takeVal : Option Nat → Value
  | some l => .tuple #[.int .u64 (l : Int), .int .i64 0]
  | none => .tuple #[.int .u64 0, .int .i64 15]
theorem take_none {σ : St} (h : σ.list.free.getLast? = none) : σ.take = (σ.list, none) := by unfold St.take; simp only [h]
theorem take_some {σ : St} {i : Nat} (h : σ.list.free.getLast? = some i) : σ.take = ({ σ.list with free := σ.list.free.dropLast, tags := σ.list.tags.set i ((σ.list.tags.getD i (0, false)).1, true) }, some (σ.list.linkAt i)) := by unfold St.take; simp only [h]
theorem take_any {A : Book} {σ : St} {w : World} (hR : Rep A σ w) (hm : A.mp = 0) (hn : σ.free.length < 100000) (hfree : ∀ i ∈ σ.list.free, i < σ.slots) (htag : ∀ i, i < σ.slots → (σ.tags.getD i (0, false)).1 ≤ 65535) :
    Calls Tryz.prog 162 #[.pointer (some ⟨A.bp, 0, none⟩)] w fun e w' =>
      e = .returned (takeVal σ.take.2) ∧ ∃ A', PoolOnly A A' ∧ Rep A' σ.take.1 w' ∧ Grow A.L w A'.L w' := by
  have hl := list_any hR hm hn
  have hsl : σ.list.slots = σ.slots := by unfold St.list; split <;> rfl
  have htg : σ.list.tags = σ.tags := by unfold St.list; split <;> rfl
  have hb1 : σ.list.free.length < 200000 := by
    have := hR.sl
    unfold St.list
    split
    · omega
    · simp; omega
  have HL := Lib.hid hl
  have HF := Lib.hid (And.intro hfree (And.intro htag (And.intro hsl htg)))
  have HS := Lib.hid hR.sl
  clear hR hm hn hfree htag hl hsl htg
  cases hlast : σ.list.free.getLast? with
  | none =>
    rw [take_none hlast]
    generalize σ.list = σ1 at *
    have hnil : σ1.free = [] := by simpa using hlast
    have HN := Lib.hid hnil
    clear hlast hnil
    go_enter Tryz.func162, Tryz.ntmps162
    go_wp2_with (go_at_call 125; refine HL.out.mono ?_; rintro e w1 ⟨rfl, A1, ⟨⟨L1, v1, m1, rfl⟩, hm1⟩, q1, q2⟩; have p2 : w1.cell? ⟨A.bp, 2, none⟩ = some v1 := q1.pool 2 rfl; have hown := free_row q1; rw [HN.out] at hown; obtain ⟨av, capv, hv, _⟩ := Ow.own_form hown; have hv' : v1 = .slice av 0 capv := hv; rw [hv'] at p2; have HQ := Lib.hid (And.intro q1 (And.intro q2 hm1)); clear q1 q2 hown hv hv' hm1)
    go_ret2
    exact ⟨rfl, _, ⟨⟨_, _, _, rfl⟩, HQ.out.2.2⟩, HQ.out.1, HQ.out.2.1⟩
  | some i =>
    rw [take_some hlast]
    generalize σ.list = σ1 at *
    have hmem : i ∈ σ1.free := List.mem_of_getLast? hlast
    have hne : σ1.free ≠ [] := by rintro h; rw [h] at hmem; cases hmem
    have hpos : 0 < σ1.free.length := List.length_pos_iff.2 hne
    have hat : (σ1.free.map i64)[σ1.free.length - 1]? = some (.int .i64 (i : Int)) := by
      rw [List.getElem?_map, ← List.getLast?_eq_getElem?, hlast]; rfl
    have hdrop : (σ1.free.map i64).dropLast = σ1.free.dropLast.map i64 := List.map_dropLast.symm
    have hdl : σ1.free.dropLast.length = σ1.free.length - 1 := by simp
    have hi : i < σ.slots := HF.out.1 i hmem
    have htt : (σ1.tags.getD i (0, false)).1 ≤ 65535 := by rw [HF.out.2.2.2]; exact HF.out.2.1 i hi
    have hs1 : σ1.slots = σ.slots := HF.out.2.2.1
    have FACT : Hid (∀ L1 v1 m1 w1, Rep { A with L := L1, vfree := v1, mp := m1 } σ1 w1 → ∃ g cap, v1 = .slice (some ⟨g, 0, none⟩) σ1.free.length cap ∧ σ1.free.length ≤ cap ∧ cap ≤ 9223372036854775807 ∧ w1.cell? ⟨A.bp, 2, none⟩ = some (.slice (some ⟨g, 0, none⟩) σ1.free.length cap) ∧ w1.frozen? ⟨A.bp, 2, none⟩ = false ∧ w1.cell? ⟨g, σ1.free.length - 1, none⟩ = some (.int .i64 (i : Int)) ∧ w1.cell? ⟨A.bp, 0, none⟩ = some (.slice (some ⟨A.bs, 0, none⟩) σ.slots σ.slots)) := by
      intro L1 v1 m1 w1 q1
      obtain ⟨g, cap, e1, e2, e3, e4, e5⟩ := own_drop (free_row q1) hpos
      have e1' : v1 = .slice (some ⟨g, 0, none⟩) σ1.free.length cap := e1
      refine ⟨g, cap, e1', e2, e3, by rw [← e1']; exact q1.pool 2 rfl, q1.poolF 2, e5 _ _ hat, by rw [← hs1]; exact q1.pool 0 rfl⟩
    have FIN : Hid (∀ L1 v1 m1 w1 g cap, Rep { A with L := L1, vfree := v1, mp := m1 } σ1 w1 → v1 = .slice (some ⟨g, 0, none⟩) σ1.free.length cap → ∀ w2, w2 = w1.setCell ⟨A.bp, 2, none⟩ (.slice (some ⟨g, 0, none⟩) (σ1.free.length - 1) cap) → Rep { A with L := L1, vfree := .slice (some ⟨g, 0, none⟩) (σ1.free.length - 1) cap, mp := m1 } { σ1 with free := σ1.free.dropLast } w2 ∧ Grow L1 w1 L1 w2) := by
      rintro L1 v1 m1 w1 g cap q1 rfl w2 rfl
      obtain ⟨g', cap', e1, e2, e3, e4, e5⟩ := own_drop (free_row q1) hpos
      simp only [Value.slice.injEq, Option.some.injEq, Addr.mk.injEq, and_true, true_and] at e1
      obtain ⟨rfl, rfl⟩ := e1
      exact q1.freeOff σ1.free.dropLast _ (by rw [hdl, ← hdrop]; exact e4) rfl
    have hlk : ({ σ1 with free := σ1.free.dropLast, tags := σ1.tags.set i ((σ1.tags.getD i (0, false)).1, true) } : St).linkAt i = σ1.linkAt i ∧ (({ σ1 with free := σ1.free.dropLast, tags := σ1.tags.set i ((σ1.tags.getD i (0, false)).1, true) } : St).tags.getD i (0, false)).1 = (σ1.tags.getD i (0, false)).1 := by
      by_cases hlt : i < σ1.tags.length
      · unfold St.linkAt
        simp only [getD_set _ _ _ _ _ hlt, if_pos]
        exact ⟨trivial, trivial⟩
      · unfold St.linkAt
        simp [List.set_eq_of_length_le (by omega : σ1.tags.length ≤ i)]
    have AFTER : Hid (∀ L1 m1 w1 g cap, Rep { A with L := L1, vfree := .slice (some ⟨g, 0, none⟩) σ1.free.length cap, mp := m1 } σ1 w1 →
        (w1.setCell ⟨A.bp, 2, none⟩ (.slice (some ⟨g, 0, none⟩) (σ1.free.length - 1) cap)).cell? ⟨A.bs, i * 2 + 1, none⟩ = some (.bool (σ1.tags.getD i (0, false)).2) ∧ (w1.setCell ⟨A.bp, 2, none⟩ (.slice (some ⟨g, 0, none⟩) (σ1.free.length - 1) cap)).frozen? ⟨A.bs, i * 2 + 1, none⟩ = false ∧
        Rep { A with L := L1, vfree := .slice (some ⟨g, 0, none⟩) (σ1.free.length - 1) cap, mp := m1 } { σ1 with free := σ1.free.dropLast, tags := σ1.tags.set i ((σ1.tags.getD i (0, false)).1, true) } ((w1.setCell ⟨A.bp, 2, none⟩ (.slice (some ⟨g, 0, none⟩) (σ1.free.length - 1) cap)).setCell ⟨A.bs, i * 2 + 1, none⟩ (.bool true)) ∧
        Grow L1 w1 L1 ((w1.setCell ⟨A.bp, 2, none⟩ (.slice (some ⟨g, 0, none⟩) (σ1.free.length - 1) cap)).setCell ⟨A.bs, i * 2 + 1, none⟩ (.bool true)) ∧
        Calls Tryz.prog 173 #[.pointer (some ⟨A.bp, 0, none⟩), .int .i64 (i : Int)] ((w1.setCell ⟨A.bp, 2, none⟩ (.slice (some ⟨g, 0, none⟩) (σ1.free.length - 1) cap)).setCell ⟨A.bs, i * 2 + 1, none⟩ (.bool true)) fun e w' => e = .returned (.int .u64 ((σ1.linkAt i : Nat) : Int)) ∧ ((w1.setCell ⟨A.bp, 2, none⟩ (.slice (some ⟨g, 0, none⟩) (σ1.free.length - 1) cap)).setCell ⟨A.bs, i * 2 + 1, none⟩ (.bool true)) = w') := by
      rw [show i * 2 + 1 = 2 * i + 1 by omega]
      intro L1 m1 w1 g cap q1
      obtain ⟨r2, g2⟩ := FIN.out L1 _ m1 w1 g cap q1 rfl _ rfl
      have hi' : i < ({ σ1 with free := σ1.free.dropLast } : St).slots := by show i < σ1.slots; omega
      obtain ⟨r3, g3⟩ := r2.takenSet hi' true
      have hlink := link_any r3 i hi' (by rw [show (({ σ1 with free := σ1.free.dropLast, tags := σ1.tags.set i ((σ1.tags.getD i (0, false)).1, true) } : St).tags.getD i (0, false)).1 = _ from hlk.2]; exact htt)
      rw [show _ = σ1.linkAt i from hlk.1] at hlink
      exact ⟨(r2.tag hi').2, r2.tagF _, r3, g2.trans g3, hlink⟩
    have b1 : (0 : Int) ≤ (i : Int) := by omega
    have b2 : (i : Int) < (σ.slots : Int) := by omega
    have d1 : ((σ1.free.length : Int) == 0) = false := by simp; omega
    have d2 : ((σ1.free.length : Int) = 0) = False := by simp; omega
    have d3 : (σ1.free.length == 0) = false := by simp; omega
    have n1 : (1 : Int) ≤ (σ1.free.length : Int) := by omega
    have n2 : (σ1.free.length : Int) < 200000 := by omega
    have n3 : ((σ1.free.length : Int) - 1).toNat = σ1.free.length - 1 := by omega
    have n4 : IntKind.i64.wrap ((σ1.free.length : Int) - 1) = (σ1.free.length : Int) - 1 := by rw [IntKind.wrap_i64]; omega
    clear hlast hmem hne hat hdrop hdl hi htt hs1 hlk hb1 hpos FIN
    generalize hlen : σ1.free.length = n at *
    have n5 : (n : Int) - 1 < (n : Int) := by omega
    have n6 : (0 : Int) ≤ (n : Int) - 1 := by omega
    clear hlen n2
    go_enter Tryz.func162, Tryz.ntmps162
    go_wp2_with (first | (go_at_call 125; refine HL.out.mono ?_; rintro e w1 ⟨rfl, A1, ⟨⟨L1, v1, m1, rfl⟩, hm1⟩, q1, q2⟩; obtain ⟨g, cap, rfl, f1, f2, p2, z2, pc, p0⟩ := FACT.out L1 v1 m1 w1 q1; obtain ⟨t1, z1, r3, g3, hlink⟩ := AFTER.out L1 m1 w1 g cap q1; have HLK := Lib.hid hlink; have HQ := Lib.hid (And.intro r3 (And.intro (q2.trans g3) hm1)); clear q1 q2 r3 g3 hm1 hlink) | (go_at_call 173; refine HLK.out.mono ?_; rintro e w' ⟨rfl, rfl⟩))
    go_ret2
    exact ⟨rfl, _, ⟨⟨_, _, _, rfl⟩, HQ.out.2.2⟩, HQ.out.1, HQ.out.2.1⟩
end Go.Proofs.YtdgombgcjeelpaaGreat.Em

namespace Go.Proofs.YtdgombgcjeelpaaGreat.Em
open Go.ChangeShapes Go.WideShapes Go.ChangeAt Go.RowKit En
set_option linter.unusedVariables false
set_option linter.unusedSimpArgs false
set_option maxRecDepth 100000
set_option maxHeartbeats 1000000

/-- A link that leads to a slot. -/
structure VL (σ : St) (l : Nat) : Prop where
  lo : 1 ≤ l % 131072
  hi : l % 131072 ≤ σ.slots
  u : l < 18446744073709551616
theorem slotOf_lt {σ : St} {l : Nat} (h : VL σ l) : slotOf l < σ.slots := by have := h.lo; have := h.hi; unfold slotOf; omega
theorem k_get {A : Book} {σ : St} {w : World} (hR : Rep A σ w) (s : Nat) (t : Txn) (ht : σ.txns.getD s none = some t) (key link b0 b1 b2 b3 : Nat)
    (B0 : Box A.L w b0 (.pointer (some ⟨A.bt s, 0, none⟩))) (B1 : Box A.L w b1 (.int .i64 (key : Int))) (B2 : Box A.L w b2 (.pointer (some ⟨A.be, 0, none⟩))) (B3 : Box A.L w b3 (.pointer (some ⟨A.bc s, 0, none⟩)))
    (at_ : Nat) (hl : link = 0 ∨ VL σ link) (hn : t.reads.length < 1000000) :
    Calls Tryz.prog 105 #[.int .u64 (link : Int), .pointer (some ⟨b0, 0, none⟩), .pointer (some ⟨b1, 0, none⟩), .pointer (some ⟨b2, 0, none⟩), .pointer (some ⟨b3, 0, none⟩)] w (Tells A w s (σ.thn s ⟨key, at_, .get⟩ link)) := by
  have c0 := B0.cell
  have c1 := B1.cell
  have c2 := B2.cell
  have c3 := B3.cell
  by_cases h0 : link = 0
  · have hr := read_any hR s t ht key link false hn
    have e0 : (link != 0) = false := by simpa using h0
    have e1 : σ.thn s ⟨key, at_, .get⟩ link = (σ.read s key link false, .fin { e := 11 }) := by simp only [St.thn, e0, if_pos h0]
    rw [e1]
    have d1 : ((link : Int) == 0) = true := by simpa using h0
    have d2 : ((link : Int) != 0) = false := by simpa using h0
    have d3 : ((link : Int) = 0) = True := by simpa using h0
    have HR := Lib.hid hr
    have HB := Lib.hid (And.intro B2 B3)
    clear hR ht hl hn hr e1 e0 h0 B0 B1 B2 B3
    go_enter Tryz.func105, Tryz.ntmps105
    go_wp2_with (first | (go_at_call 106; refine HR.out.mono ?_; rintro e w1 ⟨rfl, A1, q1, q2, q3, q4, q5⟩; have c2 := (HB.out.1.grow q2).cell; have c3 := (HB.out.2.grow q2).cell; have HE := Lib.hid (ends_at q1 s { e := 11 } 11 0 0 0 (.slice none 0 0) rfl (.inr ⟨rfl, rfl⟩)); rw [q3.be, q3.bc] at HE; have HQ := Lib.hid (And.intro q2 q3); clear q1 q2 q3 q4 q5) | (go_at_call 103; refine HE.out.mono ?_; rintro e w2 ⟨A2, v, rfl, p1, p2, p3, p4⟩))
    go_ret
    exact ⟨A2, v, rfl, p1, HQ.out.1.trans p2, HQ.out.2.trans p3, p4⟩
  · have hv := hl.resolve_left h0
    have hr := read_any hR s t ht key link true hn
    have e0 : (link != 0) = true := by simpa using h0
    have e1 : σ.thn s ⟨key, at_, .get⟩ link = (σ.read s key link true, .fin { value := σ.valueOf link }) := by
      simp only [St.thn, e0, if_neg h0]; rfl
    rw [e1]
    have d1 : ((link : Int) == 0) = false := by simpa using h0
    have d2 : ((link : Int) != 0) = true := by simpa using h0
    have d3 : ((link : Int) = 0) = False := by simpa using h0
    have HR := Lib.hid hr
    have HB := Lib.hid (And.intro B2 (And.intro B3 hv))
    have HT := Lib.hid ht
    have H0 := Lib.hid hR.sl
    clear hR ht hl hn hr e1 B0 B1 B2 B3 hv e0 h0
    go_enter Tryz.func105, Tryz.ntmps105
    go_wp2_with (go_at_call 106; refine HR.out.mono ?_; rintro e w1 ⟨rfl, A1, q1, q2, q3, q4, q5⟩)
    obtain ⟨B2, B3, hv⟩ := HB.out
    have c2 := (B2.grow q2).cell
    have c3 := (B3.grow q2).cell
    have hd := (data_any q1.drew link hv.lo hv.hi hv.u).mono fun e w' h => (⟨h.1, h.2.symm⟩ : _ ∧ w' = w1.drew)
    have hval := (q1.drew.val (show slotOf link < (σ.read s key link true).slots from slotOf_lt (σ := σ) hv)).2
    have he := ends_at q1.drew s { value := σ.valueOf link } 0 (σ.valueOf link : Int) 0 0 (.slice none 0 0) rfl (.inr ⟨rfl, rfl⟩)
    rw [q3.be, q3.bc] at he
    rw [q3.be] at hd
    have HE := Lib.hid he
    have HD := Lib.hid hd
    have HQ := Lib.hid (And.intro q2 q3)
    have e3 : (((σ.read s key link true).values.getD (slotOf link) (0, 0)).2 : Int) = (σ.valueOf link : Int) := rfl
    rw [e3] at hval
    clear he q1 q2 q3 q4 q5 B2 B3 hd hv e3
    generalize A1.bv = bv at *
    go_wp2_with fail
    refine wp_region_still_tail 9 (by kernel_rfl) (by kernel_rfl) ?_
    simp only [List.take_succ_cons, List.take_zero, List.drop_succ_cons, List.drop_zero]
    repeat still_step
    still_call HD.out
    repeat still_step
    refine wpStill_nil ?_
    change wpList _ _ _ _ _ w1.drew
    have HG : Hid (Grow A1.L w1 A1.L w1.drew) := Grow.drew _ _
    generalize w1.drew = w3 at *
    go_wp2_with (go_at_call 103; refine HE.out.mono ?_; rintro e w2 ⟨A2, v, rfl, p1, p2, p3, p4⟩)
    go_ret
    exact ⟨A2, v, rfl, p1, (HQ.out.1.trans HG.out).trans p2, HQ.out.2.trans p3, p4⟩
end Go.Proofs.YtdgombgcjeelpaaGreat.Em

namespace Go.Proofs.YtdgombgcjeelpaaGreat.Em
open Go.ChangeShapes Go.WideShapes Go.ChangeAt Go.RowKit En
set_option linter.unusedVariables false
set_option linter.unusedSimpArgs false
set_option maxRecDepth 100000
set_option maxHeartbeats 1000000

/-- fresh at no link: the number as it stands in the walk. -/
theorem fresh_0 {A : Book} {σ : St} {w : World} (hR : Rep A σ w) (s : Nat) :
    Calls Tryz.prog 121 #[.pointer (some ⟨A.be, 0, none⟩), .pointer (some ⟨A.bt s, 0, none⟩), .pointer (some ⟨A.bc s, 0, none⟩), .int .u64 0] w (Tells A w s (σ, .fresh 0)) := fresh_any hR s 0
theorem k_change {A : Book} {σ : St} {w : World} (hR : Rep A σ w) (s : Nat) (t : Txn) (ht : σ.txns.getD s none = some t) (c : Cal) (hc : σ.calls.getD s none = some c) (key link b0 b1 b2 b3 : Nat) (hk : c.op.key = key)
    (B0 : Box A.L w b0 (.pointer (some ⟨A.bc s, 0, none⟩))) (B1 : Box A.L w b1 (.pointer (some ⟨A.bt s, 0, none⟩))) (B2 : Box A.L w b2 (.int .i64 (key : Int))) (B3 : Box A.L w b3 (.pointer (some ⟨A.be, 0, none⟩)))
    (at_ : Nat) (hn : t.reads.length < 1000000) :
    Calls Tryz.prog 120 #[.int .u64 (link : Int), .pointer (some ⟨b0, 0, none⟩), .pointer (some ⟨b1, 0, none⟩), .pointer (some ⟨b2, 0, none⟩), .pointer (some ⟨b3, 0, none⟩)] w (Tells A w s (σ.thn s ⟨key, at_, .change⟩ link)) := by
  have c0 := B0.cell
  have c1 := B1.cell
  have c2 := B2.cell
  have c3 := B3.cell
  have k0 : w.cell? ⟨A.bc s, 0, none⟩ = some (.int .i64 (c.op.kind : Int)) := hR.call hc 0 rfl
  have hcg := call_get hc
  have hr := read_any hR s t ht key link false hn
  have HR := Lib.hid hr
  have HB := Lib.hid (And.intro B0 (And.intro B1 (And.intro B2 B3)))
  have HX := Lib.hid hR
  have e0 : σ.thn s ⟨key, at_, .change⟩ link = if link ≠ 0 ∧ c.op.kind = 2 then (σ.read s key link false, .fin { e := 12 }) else if link = 0 ∧ c.op.kind ≠ 2 then (σ.read s key link false, .fin { e := 11 }) else if link = 0 then (σ, .fresh 0) else (σ, .own link) := by
    simp only [St.thn, hcg, hk]
  rw [e0]
  clear e0 hR ht hn hr B0 B1 B2 B3 hc hcg hk
  generalize c.op.kind = kd at *
  by_cases h0 : link = 0
  · by_cases h2 : kd = 2
    · rw [if_neg (by omega), if_neg (by omega), if_pos h0]
      have d1 : ((link : Int) == 0) = true := by simpa using h0
      have d2 : ((link : Int) != 0) = false := by simpa using h0
      have d3 : ((link : Int) = 0) = True := by simpa using h0
      have f1 : ((kd : Int) == 2) = true := by simp; omega
      have f2 : ((kd : Int) != 2) = false := by simp; omega
      have f3 : ((kd : Int) = 2) = True := by simp; omega
      clear h0 h2
      go_enter Tryz.func120, Tryz.ntmps120
      go_wp2_with (go_at_call 121; refine (fresh_0 HX.out s).mono ?_; rintro e w2 ⟨A2, v, rfl, p1, p2, p3, p4⟩)
      go_ret
      exact ⟨A2, v, rfl, p1, p2, p3, p4⟩
    · rw [if_neg (by omega), if_pos (by omega)]
      have d1 : ((link : Int) == 0) = true := by simpa using h0
      have d2 : ((link : Int) != 0) = false := by simpa using h0
      have d3 : ((link : Int) = 0) = True := by simpa using h0
      have f1 : ((kd : Int) == 2) = false := by simp; omega
      have f2 : ((kd : Int) != 2) = true := by simp; omega
      have f3 : ((kd : Int) = 2) = False := by simp; omega
      clear h0 h2
      go_enter Tryz.func120, Tryz.ntmps120
      go_wp2_with (first | (go_at_call 106; refine HR.out.mono ?_; rintro e w1 ⟨rfl, A1, q1, q2, q3, q4, q5⟩; have c0 := (HB.out.1.grow q2).cell; have c3 := (HB.out.2.2.2.grow q2).cell; have HE := Lib.hid (ends_at q1 s { e := 11 } 11 0 0 0 (.slice none 0 0) rfl (.inr ⟨rfl, rfl⟩)); rw [q3.be, q3.bc] at HE; have HQ := Lib.hid (And.intro q2 q3); clear q1 q2 q3 q4 q5) | (go_at_call 103; refine HE.out.mono ?_; rintro e w2 ⟨A2, v, rfl, p1, p2, p3, p4⟩))
      go_ret
      exact ⟨A2, v, rfl, p1, HQ.out.1.trans p2, HQ.out.2.trans p3, p4⟩
  · by_cases h2 : kd = 2
    · rw [if_pos (by omega)]
      have d1 : ((link : Int) == 0) = false := by simpa using h0
      have d2 : ((link : Int) != 0) = true := by simpa using h0
      have d3 : ((link : Int) = 0) = False := by simpa using h0
      have f1 : ((kd : Int) == 2) = true := by simp; omega
      have f2 : ((kd : Int) != 2) = false := by simp; omega
      have f3 : ((kd : Int) = 2) = True := by simp; omega
      clear h0 h2
      go_enter Tryz.func120, Tryz.ntmps120
      go_wp2_with (first | (go_at_call 106; refine HR.out.mono ?_; rintro e w1 ⟨rfl, A1, q1, q2, q3, q4, q5⟩; have c0 := (HB.out.1.grow q2).cell; have c3 := (HB.out.2.2.2.grow q2).cell; have HE := Lib.hid (ends_at q1 s { e := 12 } 12 0 0 0 (.slice none 0 0) rfl (.inr ⟨rfl, rfl⟩)); rw [q3.be, q3.bc] at HE; have HQ := Lib.hid (And.intro q2 q3); clear q1 q2 q3 q4 q5) | (go_at_call 103; refine HE.out.mono ?_; rintro e w2 ⟨A2, v, rfl, p1, p2, p3, p4⟩))
      go_ret
      exact ⟨A2, v, rfl, p1, HQ.out.1.trans p2, HQ.out.2.trans p3, p4⟩
    · rw [if_neg (by omega), if_neg (by omega), if_neg h0]
      have d1 : ((link : Int) == 0) = false := by simpa using h0
      have d2 : ((link : Int) != 0) = true := by simpa using h0
      have d3 : ((link : Int) = 0) = False := by simpa using h0
      have f1 : ((kd : Int) == 2) = false := by simp; omega
      have f2 : ((kd : Int) != 2) = true := by simp; omega
      have f3 : ((kd : Int) = 2) = False := by simp; omega
      clear h0 h2
      go_enter Tryz.func120, Tryz.ntmps120
      go_wp2_with (go_at_call 122; refine (own_any HX.out s link).mono ?_; rintro e w2 ⟨A2, v, rfl, p1, p2, p3, p4⟩)
      go_ret
      exact ⟨A2, v, rfl, p1, p2, p3, p4⟩
end Go.Proofs.YtdgombgcjeelpaaGreat.Em

namespace Go.Proofs.YtdgombgcjeelpaaGreat.Em
open Go.ChangeShapes Go.WideShapes Go.ChangeAt Go.RowKit En
set_option linter.unusedVariables false
set_option linter.unusedSimpArgs false
set_option maxRecDepth 100000
set_option maxHeartbeats 1000000

theorem slot_at (l : Nat) (k : Int) (n : Nat) (hk : (n : Int) = k) (h1 : 1 ≤ l % 131072) (h2 : l % 131072 ≤ 256) (hl : l < 18446744073709551616) (hn : n ≤ 2) (w : World) :
    Calls Tryz.prog 58 #[.int .u64 (l : Int), .int .i64 k] w fun e w' => e = .returned (.int .i64 ((wslot l n : Nat) : Int)) ∧ w = w' := by subst hk; exact slot_any l n h1 h2 hl hn w
theorem wslot_lt {A : Book} {σ : St} {w : World} (hR : Rep A σ w) {l k : Nat} (h1 : 1 ≤ l % 131072) (h2 : l % 131072 ≤ σ.slots) (hk : k ≤ 2) : wslot l k < σ.words.length := by rw [hR.nw]; unfold wslot slotOf; omega
theorem k_visit {A : Book} {σ : St} {w : World} (hR : Rep A σ w) (s : Nat) (t : Txn) (ht : σ.txns.getD s none = some t) (hu : Hunt) (link b0 b1 : Nat) (B0 : HuntBox (kp A σ s) A.L w b0 hu) (B1 : Box A.L w b1 (.int .u64 (link : Int)))
    (h1 : 1 ≤ link % 131072) (h2 : link % 131072 ≤ σ.slots) (hl : link < 18446744073709551616) (hx : σ.word (wslot link 0) < 18446744073709551616) (hc : σ.count < 4000000000000000000) :
    Calls Tryz.prog 176 #[.pointer (some ⟨b0, 0, none⟩), .pointer (some ⟨b1, 0, none⟩)] w (Ran A w s (σ.run s (.visit hu link))) := by
  have hsl := hR.sl
  obtain ⟨bh, X0, vt, TT, fh, hth⟩ := B0
  have c0 := X0.cell
  have c1 := B1.cell
  have h0 : w.cell? ⟨bh, 0, none⟩ = some (.pointer (some ⟨A.be, 0, none⟩)) := fh.cell 0 rfl
  have e2 : w.cell? ⟨A.be, 2, none⟩ = some (.pointer (some ⟨A.ba, 0, none⟩)) := hR.eng 2 rfl
  have HK : Hid (∀ w', Kp A w w' → w'.cell? ⟨b0, 0, none⟩ = some (.pointer (some ⟨bh, 0, none⟩)) ∧ w'.cell? ⟨b1, 0, none⟩ = some (.int .u64 (link : Int)) ∧ w'.cell? ⟨bh, 0, none⟩ = some (.pointer (some ⟨A.be, 0, none⟩)) ∧ w'.cell? ⟨A.be, 2, none⟩ = some (.pointer (some ⟨A.ba, 0, none⟩))) := by
    obtain ⟨_, x0⟩ := X0
    obtain ⟨_, x1⟩ := B1
    exact fun w' k => ⟨k.fix _ _ _ x0.1 c0, k.fix _ _ _ x1.1 c1, k.fix _ _ _ fh.1 h0, k.ea⟩
  have HS := Lib.hid (slot_at link 0 0 rfl h1 (by omega) hl (by omega))
  have HL := Lib.hid (load_any hR.drew (wslot link 0) (wslot_lt hR h1 h2 (by omega)) hc)
  have HG : Hid (Grow A.L w A.L w.drew) := Grow.drew _ _
  have hh0 : HuntAt (kp A σ s) A.L w bh hu := ⟨vt, TT, fh, hth⟩
  have HB : Hid (∀ w1, Rep A σ.tick w1 → Grow A.L w A.L w1 → Calls Tryz.prog 177 #[.pointer (some ⟨bh, 0, none⟩), .int .u64 (link : Int), .int .u64 (σ.word (wslot link 0) : Int)] w1 (Tells A w1 s (σ.tick, σ.beginK s hu link (σ.word (wslot link 0))))) :=
    fun w1 r g => begin_any r s t ht bh hu (hh0.grow g) link _ hx
  clear hR ht X0 B1 fh hth h1 h2 hl hx hc hsl hh0
  go_enter Tryz.func176, Tryz.ntmps176
  go_wp2_with fail
  go_region_held3 (fun w' => w'.cell? ⟨b0, 0, none⟩ = some (.pointer (some ⟨bh, 0, none⟩)) ∧ w'.cell? ⟨b1, 0, none⟩ = some (.int .u64 (link : Int)) ∧ w'.cell? ⟨bh, 0, none⟩ = some (.pointer (some ⟨A.be, 0, none⟩)) ∧ w'.cell? ⟨A.be, 2, none⟩ = some (.pointer (some ⟨A.ba, 0, none⟩)))
    (first | exact ⟨c0, c1, h0, e2⟩ | assumption | exact HK.out _ (Kp.of (by assumption) (by assumption) (by assumption)))
    (first | (go_at_call 58; refine (HS.out _).mono ?_; rintro e w' ⟨rfl, rfl⟩) | (go_at_call 66; refine HL.out.mono ?_; rintro e w1 ⟨rfl, q1, q2⟩; have q4 := HG.out.trans q2; have q3 := Stay.refl A s; clear q2) | (go_at_call 177; refine (HB.out _ (by assumption) (by assumption)).mono ?_; rintro e w2 ⟨A', v, rfl, p1, p2, p3, p4⟩; have p5 := (‹Grow A.L w A.L _›).trans p2))
  go_wp2_with fail
  go_ret
  exact ⟨A', _, rfl, p1, p5, p3, p4⟩
end Go.Proofs.YtdgombgcjeelpaaGreat.Em

namespace Go.Proofs.YtdgombgcjeelpaaGreat.Em
open Go.ChangeShapes Go.WideShapes Go.ChangeAt Go.RowKit En
set_option linter.unusedVariables false
set_option linter.unusedSimpArgs false
set_option maxRecDepth 100000
set_option maxHeartbeats 1000000

theorem flip {P : Program} {f : FuncId} {args : Array Value} {w : World} {v : Value} (h : Calls P f args w fun e w' => e = .returned v ∧ w = w') : Calls P f args w fun e w' => e = .returned v ∧ w' = w := h.mono fun _ _ h => ⟨h.1, h.2.symm⟩
theorem forever_still (w : World) : Calls Tryz.prog 117 #[] w fun e w' => e = .returned (.int .u64 ((ever : Nat) : Int)) ∧ w' = w := flip (Word.forever_any w)
theorem k_slotB {A : Book} {σ : St} {w : World} (hR : Rep A σ w) (s : Nat) (t : Txn) (ht : σ.txns.getD s none = some t) (b0 b1 b2 b3 b4 b5 : Nat) (x : Bool) (link head : Nat)
    (B0 : Box A.L w b0 (.pointer (some ⟨A.be, 0, none⟩))) (B1 : Box A.L w b1 (.int .u64 (link : Int))) (B2 : Box A.L w b2 (.pointer (some ⟨A.bt s, 0, none⟩))) (B3 : Box A.L w b3 ((kp A σ s).xo x)) (B4 : Box A.L w b4 (.pointer (some ⟨A.bc s, 0, none⟩))) (B5 : HeadBox A.L w b5 x head)
    (hc : σ.count < 4000000000000000000) (hv : VL σ link) (h1 : 1 ≤ t.id) (h2 : t.id ≤ 65535) :
    Calls Tryz.prog 163 #[.pointer (some ⟨b0, 0, none⟩), .pointer (some ⟨b1, 0, none⟩), .pointer (some ⟨b2, 0, none⟩), .pointer (some ⟨b3, 0, none⟩), .pointer (some ⟨b4, 0, none⟩), .pointer (some ⟨b5, 0, none⟩)] w (Ran A w s (σ.run s (.slotB x link head))) := by
  have c0 := B0.cell
  have c1 := B1.cell
  have c2 := B2.cell
  have c3 := B3.cell
  have c4 := B4.cell
  have e2 : w.cell? ⟨A.be, 2, none⟩ = some (.pointer (some ⟨A.ba, 0, none⟩)) := hR.eng 2 rfl
  have hsl := hR.sl
  have G0 : Grow A.L w A.L w.drew := Grow.drew _ _
  have HS := Lib.hid (flip (slot_at link 0 0 rfl hv.lo (by have := hv.hi; omega) hv.u (by omega) w.drew))
  have HM := Lib.hid (flip (mine_any hR.drew s t ht h1 h2))
  have HL := Lib.hid (store_any hR.drew (wslot link 0) (mine t) (wslot_lt hR hv.lo hv.hi (by omega)) hc)
  have hrun : σ.run s (.slotB x link head) = (σ.put (wslot link 0) (mine t), some (.slotE x link head)) := by simp only [St.run, txn_get ht]
  rw [hrun]
  clear hrun ht hv h1 h2
  have HG := Lib.hid G0
  have HB := Lib.hid ((And.intro B0 (And.intro B1 (And.intro B2 (And.intro B3 (And.intro B4 B5))))))
  clear hR hsl hc G0 B0 B1 B2 B3 B4 B5
  go_enter Tryz.func163, Tryz.ntmps163
  go_wp2_with fail
  refine wp_region_still_tail 8 (by kernel_rfl) (by kernel_rfl) ?_
  simp only [List.take_succ_cons, List.take_zero, List.drop_succ_cons, List.drop_zero]
  repeat still_step
  still_call HS.out
  repeat still_step
  still_call HM.out
  repeat still_step
  refine wpStill_nil ?_
  change wpList _ _ _ _ _ w.drew
  generalize w.drew = wd at *
  go_wp2_with (go_at_call 70; refine HL.out.mono ?_; rintro e w1 ⟨rfl, q1, q2⟩)
  go_ret
  obtain ⟨B0, B1, B2, B3, B4, B5⟩ := HB.out
  exact ⟨A, _, rfl, q1, HG.out.trans q2, Stay.refl _ _, _, _, _, _, _, _, rfl, B0.grow (HG.out.trans q2), B1.grow (HG.out.trans q2), B3.grow (HG.out.trans q2), B2.grow (HG.out.trans q2), B4.grow (HG.out.trans q2), B5.grow (HG.out.trans q2)⟩
theorem k_push {A : Book} {σ : St} {w : World} (hR : Rep A σ w) (s : Nat) (t : Txn) (ht : σ.txns.getD s none = some t) (b0 b1 b2 b3 b4 : Nat) (link head : Nat)
    (B0 : Box A.L w b0 (.pointer (some ⟨A.be, 0, none⟩))) (B1 : Box A.L w b1 (.int .u64 (link : Int))) (B2 : Box A.L w b2 (.int .u64 (head : Int))) (B3 : Box A.L w b3 (.pointer (some ⟨A.bc s, 0, none⟩))) (B4 : Box A.L w b4 (.pointer (some ⟨A.bt s, 0, none⟩)))
    (hc : σ.count < 4000000000000000000) (hv : VL σ link) :
    Calls Tryz.prog 184 #[.pointer (some ⟨b0, 0, none⟩), .pointer (some ⟨b1, 0, none⟩), .pointer (some ⟨b2, 0, none⟩), .pointer (some ⟨b3, 0, none⟩), .pointer (some ⟨b4, 0, none⟩)] w (Ran A w s (σ.run s (.push link head))) := by
  have c0 := B0.cell
  have c1 := B1.cell
  have c2 := B2.cell
  have c3 := B3.cell
  have c4 := B4.cell
  have e2 : w.cell? ⟨A.be, 2, none⟩ = some (.pointer (some ⟨A.ba, 0, none⟩)) := hR.eng 2 rfl
  have hsl := hR.sl
  have G0 : Grow A.L w A.L w.drew := Grow.drew _ _
  have HS := Lib.hid (flip (slot_at link 2 2 rfl hv.lo (by have := hv.hi; omega) hv.u (by omega) w.drew))
  have HL := Lib.hid (store_any hR.drew (wslot link 2) head (wslot_lt hR hv.lo hv.hi (by omega)) hc)
  have hrun : σ.run s (.push link head) = (σ.put (wslot link 2) head, some (.pushC link head)) := rfl
  rw [hrun]
  clear hrun ht hv
  have HG := Lib.hid G0
  have HB := Lib.hid ((And.intro B0 (And.intro B1 (And.intro B2 (And.intro B3 B4)))))
  clear hR hsl hc G0 B0 B1 B2 B3 B4
  go_enter Tryz.func184, Tryz.ntmps184
  go_wp2_with fail
  refine wp_region_still_tail 7 (by kernel_rfl) (by kernel_rfl) ?_
  simp only [List.take_succ_cons, List.take_zero, List.drop_succ_cons, List.drop_zero]
  repeat still_step
  still_call HS.out
  repeat still_step
  refine wpStill_nil ?_
  change wpList _ _ _ _ _ w.drew
  generalize w.drew = wd at *
  go_wp2_with (go_at_call 70; refine HL.out.mono ?_; rintro e w1 ⟨rfl, q1, q2⟩)
  go_ret
  obtain ⟨B0, B1, B2, B3, B4⟩ := HB.out
  exact ⟨A, _, rfl, q1, HG.out.trans q2, Stay.refl _ _, _, _, _, _, _, rfl, B0.grow (HG.out.trans q2), B3.grow (HG.out.trans q2), B2.grow (HG.out.trans q2), B1.grow (HG.out.trans q2), B4.grow (HG.out.trans q2)⟩
theorem k_overN {A : Book} {σ : St} {w : World} (hR : Rep A σ w) (s : Nat) (t : Txn) (ht : σ.txns.getD s none = some t) (b0 b1 b2 b3 b4 b5 : Nat) (link head : Nat)
    (B0 : Box A.L w b0 (.pointer (some ⟨A.be, 0, none⟩))) (B1 : Box A.L w b1 (.int .u64 (link : Int))) (B2 : Box A.L w b2 (.int .u64 (head : Int))) (B3 : Box A.L w b3 (.pointer (some ⟨A.bc s, 0, none⟩))) (B4 : Box A.L w b4 (.pointer (some ⟨A.bt s, 0, none⟩))) (B5 : Box A.L w b5 ((kp A σ s).xo true))
    (hc : σ.count < 4000000000000000000) (hv : VL σ link) :
    Calls Tryz.prog 187 #[.pointer (some ⟨b0, 0, none⟩), .pointer (some ⟨b1, 0, none⟩), .pointer (some ⟨b2, 0, none⟩), .pointer (some ⟨b3, 0, none⟩), .pointer (some ⟨b4, 0, none⟩), .pointer (some ⟨b5, 0, none⟩)] w (Ran A w s (σ.run s (.overN link head))) := by
  have c0 := B0.cell
  have c1 := B1.cell
  have c2 := B2.cell
  have c3 := B3.cell
  have c4 := B4.cell
  have c5 := B5.cell
  have e2 : w.cell? ⟨A.be, 2, none⟩ = some (.pointer (some ⟨A.ba, 0, none⟩)) := hR.eng 2 rfl
  have hsl := hR.sl
  have G0 : Grow A.L w A.L w.drew := Grow.drew _ _
  have HS := Lib.hid (flip (slot_at link 2 2 rfl hv.lo (by have := hv.hi; omega) hv.u (by omega) w.drew))
  have HL := Lib.hid (store_any hR.drew (wslot link 2) head (wslot_lt hR hv.lo hv.hi (by omega)) hc)
  have hrun : σ.run s (.overN link head) = (σ.put (wslot link 2) head, some (.overC link head)) := rfl
  rw [hrun]
  clear hrun ht hv
  have HG := Lib.hid G0
  have HB := Lib.hid ((And.intro B0 (And.intro B1 (And.intro B2 (And.intro B3 (And.intro B4 B5))))))
  clear hR hsl hc G0 B0 B1 B2 B3 B4 B5
  go_enter Tryz.func187, Tryz.ntmps187
  go_wp2_with fail
  refine wp_region_still_tail 7 (by kernel_rfl) (by kernel_rfl) ?_
  simp only [List.take_succ_cons, List.take_zero, List.drop_succ_cons, List.drop_zero]
  repeat still_step
  still_call HS.out
  repeat still_step
  refine wpStill_nil ?_
  change wpList _ _ _ _ _ w.drew
  generalize w.drew = wd at *
  go_wp2_with (go_at_call 70; refine HL.out.mono ?_; rintro e w1 ⟨rfl, q1, q2⟩)
  go_ret
  obtain ⟨B0, B1, B2, B3, B4, B5⟩ := HB.out
  exact ⟨A, _, rfl, q1, HG.out.trans q2, Stay.refl _ _, _, _, _, _, _, _, rfl, B0.grow (HG.out.trans q2), B3.grow (HG.out.trans q2), B2.grow (HG.out.trans q2), B1.grow (HG.out.trans q2), B4.grow (HG.out.trans q2), B5.grow (HG.out.trans q2)⟩
end Go.Proofs.YtdgombgcjeelpaaGreat.Em

namespace Go.Proofs.YtdgombgcjeelpaaGreat.Em
open Go.ChangeShapes Go.WideShapes Go.ChangeAt Go.RowKit En
set_option linter.unusedVariables false
set_option linter.unusedSimpArgs false
set_option maxRecDepth 100000
set_option maxHeartbeats 1600000

theorem Grow.setNew {L L' : Lab} {w w' : World} (g : Grow L w L' w') {a : Addr} (h : w.heap.size ≤ a.block) (v : Value) : Grow L w L' (w'.setCell a v) :=
  ⟨g.os, g.tape, g.output, by simpa [World.setCell] using g.size, fun b hb hl => (Below.heap_setCell _ _ _ _ (by omega)).trans (g.block b hb hl), g.lab, fun b hb hl => (Below.heap_setCell _ _ _ _ (by omega)).trans (g.keep b hb hl)⟩
theorem Rep.setNew {A A1 : Book} {σ σ1 : St} {w w1 : World} (hR : Rep A σ w) (h1 : Rep A1 σ1 w1) (g : Grow A.L w A1.L w1) (ht : σ1.tale = σ.tale) (hcs : A1.taleCs = A.taleCs) {a : Addr} (hb : w.heap.size ≤ a.block) (hl : A1.L a.block = none) (v : Value) :
    Rep A1 σ1 (w1.setCell a v) ∧ Grow A.L w A1.L (w1.setCell a v) :=
  ⟨⟨h1.mem.setNone hl v, by rw [ht, hcs]; exact hR.ev.grow (g.setNew hb v), h1.sl, h1.nw, h1.nt, h1.nv, h1.n8, h1.nc⟩, g.setNew hb v⟩
theorem Fix.setOther {L : Lab} {w : World} {b : Nat} {o : Obj} (h : Fix L w b o) {a : Addr} (hne : b ≠ a.block) (v : Value) : Fix L (w.setCell a v) b o := ⟨h.1, (Below.heap_setCell _ _ _ _ hne).trans h.2⟩
theorem Fix.setSame {L : Lab} {w : World} {b : Nat} {u : Value} {T : TypeId} (h : Fix L w b (.cells #[u] T)) (v : Value) : Fix L (w.setCell ⟨b, 0, none⟩ v) b (.cells #[v] T) := by
  refine ⟨h.1, ?_⟩
  have := h.2
  simp only [World.setCell, Array.getElem?_modify, this]
  simp
theorem Fix.frozen {L : Lab} {w : World} {b : Nat} {cs : Array Value} {T : TypeId} (h : Fix L w b (.cells cs T)) (i : Nat) : w.frozen? ⟨b, i, none⟩ = false := by
  unfold World.frozen?
  simp only [h.2]
  simp
theorem take_VL {σ : St} {l : Nat} (hfree : ∀ i ∈ σ.list.free, i < σ.slots) (hs : σ.slots ≤ 256) (htag : ∀ i, i < σ.slots → (σ.tags.getD i (0, false)).1 ≤ 65535) (h : σ.take.2 = some l) : VL σ.take.1 l ∧ σ.take.1.slots = σ.slots := by
  have hsl : σ.list.slots = σ.slots := by unfold St.list; split <;> rfl
  have htg : σ.list.tags = σ.tags := by unfold St.list; split <;> rfl
  cases hlast : σ.list.free.getLast? with
  | none => rw [take_none hlast] at h; cases h
  | some i =>
    rw [take_some hlast] at h ⊢
    have hi := hfree i (List.mem_of_getLast? hlast)
    have ht := htag i hi
    simp only [Option.some.injEq] at h
    subst h
    refine ⟨⟨?_, ?_, ?_⟩, hsl⟩
    all_goals
      unfold St.linkAt linkOf
      rw [htg]
      first | omega | (dsimp only; omega)
/-- A version's own value. -/
def _root_.Go.Proofs.YtdgombgcjeelpaaGreat.En.St.lay (σ : St) (s l : Nat) : St := { σ with values := σ.values.set (slotOf l) ((σ.c s).op.key, (σ.c s).op.value) }
theorem slot_zero_none {σ : St} {s : Nat} {x : Bool} {head : Nat} (h : σ.take.2 = none) : σ.slot s x 0 head = (σ.take.1, .abort 14 5) := by
  unfold St.slot; simp only [if_pos]; generalize σ.take = p at *; obtain ⟨a, b⟩ := p; simp only at h; subst h; rfl
theorem slot_zero_some {σ : St} {s : Nat} {x : Bool} {head l : Nat} (h : σ.take.2 = some l) : σ.slot s x 0 head = (σ.take.1.lay s l, .slotB x l head) := by
  unfold St.slot; simp only [if_pos]; generalize σ.take = p at *; obtain ⟨a, b⟩ := p; simp only at h; subst h; rfl
theorem slot_link {σ : St} {s : Nat} {x : Bool} {head l : Nat} (h : l ≠ 0) : σ.slot s x l head = (σ.lay s l, .slotB x l head) := by
  unfold St.slot; rw [if_neg h]; rfl
/-- What stands when the value is laid. -/
theorem lay_any {A : Book} {σ : St} {w : World} (hR : Rep A σ w) (s : Nat) (c : Cal) (hc : σ.calls.getD s none = some c) (l : Nat) (hv : VL σ l) :
    w.there A.bv (2 * slotOf l) 2 ∧ Rep A (σ.lay s l) (w.setCells A.bv (2 * slotOf l) [.int .i64 (c.op.key : Int), .int .i64 (c.op.value : Int)]) ∧ Grow A.L w A.L (w.setCells A.bv (2 * slotOf l) [.int .i64 (c.op.key : Int), .int .i64 (c.op.value : Int)]) := by
  obtain ⟨r1, g1⟩ := hR.valLay (slotOf_lt hv) c.op.key c.op.value
  refine ⟨fun j hj => ⟨?_, hR.valF _⟩, by unfold St.lay; rw [call_get hc]; exact r1, g1⟩
  match j, hj with
  | 0, _ => rw [Nat.add_zero, (hR.val (slotOf_lt hv)).1]; rfl
  | 1, _ => rw [(hR.val (slotOf_lt hv)).2]; rfl
theorem slot_tells {A : Book} {σ : St} {w : World} (hR : Rep A σ w) (s : Nat) (c : Cal) (hc : σ.calls.getD s none = some c) (x : Bool) (link head : Nat) (hv : Value) (hh : FRow A.L w 1 hv (if x then [] else [u64 head])) (hv0 : link = 0 ∨ VL σ link)
    (hm : A.mp = 0) (hn : σ.free.length < 100000) (hfree : ∀ i ∈ σ.list.free, i < σ.slots) (htag : ∀ i, i < σ.slots → (σ.tags.getD i (0, false)).1 ≤ 65535) :
    Calls Tryz.prog 144 #[.pointer (some ⟨A.be, 0, none⟩), .pointer (some ⟨A.bt s, 0, none⟩), .pointer (some ⟨A.bc s, 0, none⟩), (kp A σ s).xo x, .int .u64 (link : Int), hv] w (Tells A w s (σ.slot s x link head)) := by
  obtain ⟨px, hx⟩ : ∃ px, (kp A σ s).xo x = .pointer px := by unfold KP.xo; split <;> exact ⟨_, rfl⟩
  obtain ⟨ha, hn1, hcap, hve⟩ : ∃ a n cap, hv = .slice a n cap := ⟨_, _, _, hh.choose_spec.choose_spec.choose_spec.1⟩
  rw [hx]
  subst hve
  obtain ⟨r6, g6, f0, f1, f2, f3, f4, f5⟩ := allocs6 hR #[.pointer (some ⟨A.be, 0, none⟩)] 27 #[.pointer (some ⟨A.bt s, 0, none⟩)] 93 #[.pointer (some ⟨A.bc s, 0, none⟩)] 98 #[.pointer px] 193 #[.int .u64 (link : Int)] 24 #[.slice ha hn1 hcap] 242
  have hh6 := hh.grow g6
  have k0 := f0.cell 0 rfl
  have k1 := f1.cell 0 rfl
  have k2 := f2.cell 0 rfl
  have k4 := f4.cell 0 rfl
  by_cases h0 : link = 0
  · have hslots : σ.take.1.slots = σ.slots := by unfold St.take; simp only; split <;> (unfold St.list; split <;> rfl)
    have htale : σ.take.1.tale = σ.tale := by unfold St.take; simp only; split <;> (unfold St.list; split <;> rfl)
    have hcalls : σ.take.1.calls = σ.calls := by unfold St.take; simp only; split <;> (unfold St.list; split <;> rfl)
    have e3 := r6.eng 3 (v := .pointer (some ⟨A.bp, 0, none⟩)) rfl
    have hz : ((link : Int) == 0) = true := by simpa using h0
    have hz2 : ((link : Int) = 0) = True := by simpa using h0
    have HT := Lib.hid (take_any r6 hm hn hfree htag)
    have FACT : ∀ L1 v1 m1 w1, Rep { A with L := L1, vfree := v1, mp := m1 } σ.take.1 w1 → Grow A.L ((((((w.alloc (.cells #[.pointer (some ⟨A.be, 0, none⟩)] 27)).alloc (.cells #[.pointer (some ⟨A.bt s, 0, none⟩)] 93)).alloc (.cells #[.pointer (some ⟨A.bc s, 0, none⟩)] 98)).alloc (.cells #[.pointer px] 193)).alloc (.cells #[.int .u64 (link : Int)] 24)).alloc (.cells #[.slice ha hn1 hcap] 242)) L1 w1 → ∀ l : Nat, w1.cell? ⟨w.heap.size, 0, none⟩ = some (.pointer (some ⟨A.be, 0, none⟩)) ∧ w1.cell? ⟨w.heap.size + 4, 0, none⟩ = some (.int .u64 (link : Int)) ∧ w1.frozen? ⟨w.heap.size + 4, 0, none⟩ = false ∧
        (w1.setCell ⟨w.heap.size + 4, 0, none⟩ (.int .u64 (l : Int))).cell? ⟨w.heap.size, 0, none⟩ = some (.pointer (some ⟨A.be, 0, none⟩)) ∧ (w1.setCell ⟨w.heap.size + 4, 0, none⟩ (.int .u64 (l : Int))).cell? ⟨w.heap.size + 1, 0, none⟩ = some (.pointer (some ⟨A.bt s, 0, none⟩)) ∧ (w1.setCell ⟨w.heap.size + 4, 0, none⟩ (.int .u64 (l : Int))).cell? ⟨w.heap.size + 2, 0, none⟩ = some (.pointer (some ⟨A.bc s, 0, none⟩)) ∧ (w1.setCell ⟨w.heap.size + 4, 0, none⟩ (.int .u64 (l : Int))).cell? ⟨w.heap.size + 4, 0, none⟩ = some (.int .u64 (l : Int)) ∧
        (w1.setCell ⟨w.heap.size + 4, 0, none⟩ (.int .u64 (l : Int))).cell? ⟨A.bc s, 1, none⟩ = some (.int .i64 (c.op.key : Int)) ∧ (w1.setCell ⟨w.heap.size + 4, 0, none⟩ (.int .u64 (l : Int))).cell? ⟨A.bc s, 3, none⟩ = some (.int .i64 (c.op.value : Int)) ∧
        Rep { A with L := L1, vfree := v1, mp := m1 } σ.take.1 (w1.setCell ⟨w.heap.size + 4, 0, none⟩ (.int .u64 (l : Int))) ∧ Grow A.L w L1 (w1.setCell ⟨w.heap.size + 4, 0, none⟩ (.int .u64 (l : Int))) ∧
        Box L1 (w1.setCell ⟨w.heap.size + 4, 0, none⟩ (.int .u64 (l : Int))) w.heap.size (.pointer (some ⟨A.be, 0, none⟩)) ∧ Box L1 (w1.setCell ⟨w.heap.size + 4, 0, none⟩ (.int .u64 (l : Int))) (w.heap.size + 4) (.int .u64 (l : Int)) ∧ Box L1 (w1.setCell ⟨w.heap.size + 4, 0, none⟩ (.int .u64 (l : Int))) (w.heap.size + 1) (.pointer (some ⟨A.bt s, 0, none⟩)) ∧ Box L1 (w1.setCell ⟨w.heap.size + 4, 0, none⟩ (.int .u64 (l : Int))) (w.heap.size + 3) (.pointer px) ∧ Box L1 (w1.setCell ⟨w.heap.size + 4, 0, none⟩ (.int .u64 (l : Int))) (w.heap.size + 2) (.pointer (some ⟨A.bc s, 0, none⟩)) ∧ Box L1 (w1.setCell ⟨w.heap.size + 4, 0, none⟩ (.int .u64 (l : Int))) (w.heap.size + 5) (.slice ha hn1 hcap) ∧ FRow L1 (w1.setCell ⟨w.heap.size + 4, 0, none⟩ (.int .u64 (l : Int))) 1 (.slice ha hn1 hcap) (if x then [] else [u64 head]) := by
      intro L1 v1 m1 w1 q1 q2 l
      have j0 := f0.grow q2
      have j1 := f1.grow q2
      have j2 := f2.grow q2
      have j3 := f3.grow q2
      have j4 := f4.grow q2
      have j5 := f5.grow q2
      obtain ⟨r7, g7⟩ := hR.setNew q1 (g6.trans q2) htale rfl (a := ⟨w.heap.size + 4, 0, none⟩) (by show w.heap.size ≤ w.heap.size + 4; omega) j4.1 (.int .u64 (l : Int))
      have i0 := j0.setOther (a := ⟨w.heap.size + 4, 0, none⟩) (by show w.heap.size ≠ w.heap.size + 4; omega) (.int .u64 (l : Int))
      have i1 := j1.setOther (a := ⟨w.heap.size + 4, 0, none⟩) (by show w.heap.size + 1 ≠ w.heap.size + 4; omega) (.int .u64 (l : Int))
      have i2 := j2.setOther (a := ⟨w.heap.size + 4, 0, none⟩) (by show w.heap.size + 2 ≠ w.heap.size + 4; omega) (.int .u64 (l : Int))
      have i3 := j3.setOther (a := ⟨w.heap.size + 4, 0, none⟩) (by show w.heap.size + 3 ≠ w.heap.size + 4; omega) (.int .u64 (l : Int))
      have i4 := j4.setSame (.int .u64 (l : Int))
      have i5 := j5.setOther (a := ⟨w.heap.size + 4, 0, none⟩) (by show w.heap.size + 5 ≠ w.heap.size + 4; omega) (.int .u64 (l : Int))
      have hc1 : σ.take.1.calls.getD s none = some c := by rw [hcalls]; exact hc
      exact ⟨j0.cell 0 rfl, j4.cell 0 rfl, j4.frozen 0, i0.cell 0 rfl, i1.cell 0 rfl, i2.cell 0 rfl, i4.cell 0 rfl, r7.call hc1 1 rfl, r7.call hc1 3 rfl, r7, g7, i0.box, i4.box, i1.box, i3.box, i2.box, i5.box, hh.grow g7⟩
    have hc1 : σ.take.1.calls.getD s none = some c := by rw [hcalls]; exact hc
    cases ht : σ.take.2 with
    | none =>
      have e : σ.slot s x link head = (σ.take.1, .abort 14 5) := by rw [h0]; exact slot_zero_none ht
      rw [e]
      rw [ht, show takeVal none = .tuple #[.int .u64 0, .int .i64 15] from rfl] at HT
      have HF := Lib.hid FACT
      clear hR hh hv0 hm hn hfree htag r6 g6 f0 f1 f2 f3 f4 f5 hh6 h0 e ht FACT hslots htale hcalls hc1 hc
      generalize σ.take.1 = σ1 at *
      go_enter Tryz.func144, Tryz.ntmps144
      go_wp2_with (first | (go_at_call 162; refine HT.out.mono ?_; rintro e w1 ⟨rfl, A1, ⟨⟨L1, v1, m1, rfl⟩, hm1⟩, q1, q2⟩; obtain ⟨c0, c4, z4, n0, n1, n2, n4, n5, n6, r7, g7, hb⟩ := HF.out L1 v1 m1 w1 q1 q2 0; rw [show ((0 : Nat) : Int) = 0 from rfl] at n0 n1 n2 n4 n5 n6 r7 g7; have HA := Lib.hid (abort_any r7 s 14 5); have HG := Lib.hid (And.intro g7 hm1); clear q1 q2 r7 g7 hb hm1) | (go_at_call 80; refine HA.out.mono ?_; rintro e w2 ⟨A2, v, rfl, p1, p2, p3, p4⟩))
      go_ret
      have hst : Stay A { A with L := L1, vfree := v1, mp := m1 } s := ⟨rfl, rfl, rfl, rfl, rfl, rfl, rfl, rfl, rfl, HG.out.2, rfl, fun _ _ => rfl, fun _ _ => rfl⟩
      exact ⟨A2, v, rfl, p1, HG.out.1.trans p2, hst.trans p3, p4⟩
    | some l =>
      have e : σ.slot s x link head = (σ.take.1.lay s l, .slotB x l head) := by rw [h0]; exact slot_zero_some ht
      rw [e]
      rw [ht, show takeVal (some l) = .tuple #[.int .u64 (l : Int), .int .i64 0] from rfl] at HT
      have hvl : VL σ.take.1 l := (take_VL hfree (by have := hR.sl; omega) htag ht).1
      have FIN : ∀ L1 v1 m1 ws, Rep { A with L := L1, vfree := v1, mp := m1 } σ.take.1 ws → Grow A.L w L1 ws → Calls Tryz.prog 60 #[.pointer (some ⟨A.be, 0, none⟩), .int .u64 (l : Int)] ws.drew (fun e w' => e = .returned (.pointer (some ⟨A.bv, 2 * slotOf l, none⟩)) ∧ w' = ws.drew) ∧ ws.drew.there A.bv (2 * slotOf l) 2 ∧ (∀ w', World.setCells ws.drew A.bv (2 * slotOf l) [.int .i64 (c.op.key : Int), .int .i64 (c.op.value : Int)] = w' → Rep { A with L := L1, vfree := v1, mp := m1 } (σ.take.1.lay s l) w' ∧ Grow A.L w L1 w' ∧ Grow L1 ws L1 w') := by
        intro L1 v1 m1 ws r7 g7
        obtain ⟨t1, t2, t3⟩ := lay_any r7.drew s c hc1 l hvl
        refine ⟨flip (data_any r7.drew l hvl.lo hvl.hi hvl.u), t1, ?_⟩
        rintro w' rfl
        have gd : Grow L1 ws L1 ws.drew := Grow.drew _ _
        exact ⟨t2, (g7.trans gd).trans t3, gd.trans t3⟩
      have HF := Lib.hid FACT
      have HN := Lib.hid FIN
      have hx' : (kp A σ.take.1 s).xo x = .pointer px := by
        rw [show kp A σ.take.1 s = kp A σ s by unfold kp St.c; rw [hcalls]]; exact hx
      have HX := Lib.hid hx'
      clear hR hh hv0 hm hn hfree htag r6 g6 f0 f1 f2 f3 f4 f5 hh6 h0 e ht FACT hslots htale hcalls hc1 hc hvl FIN hx hx'
      generalize σ.take.1 = σ1 at *
      go_enter Tryz.func144, Tryz.ntmps144
      go_wp2_with (go_at_call 162; refine HT.out.mono ?_; rintro e w1 ⟨rfl, A1, ⟨⟨L1, v1, m1, rfl⟩, hm1⟩, q1, q2⟩; obtain ⟨c0, c4, z4, n0, n1, n2, n4, n5, n6, r7, g7, hb⟩ := HF.out L1 v1 m1 w1 q1 q2 l; have HG := Lib.hid (And.intro r7 (And.intro g7 (And.intro hm1 hb))); clear q1 q2 r7 g7 hb hm1)
      generalize hws : World.setCell _ _ _ = ws at *
      obtain ⟨d0, d1, d2⟩ := HN.out L1 v1 m1 ws HG.out.1 HG.out.2.1
      have HD := Lib.hid d0
      clear HT
      have HT := Lib.hid d1
      have HLY := Lib.hid d2
      clear d0 d1 d2 HF HN hws
      refine wp_region_still_tail 15 (by kernel_rfl) (by kernel_rfl) ?_
      simp only [List.take_succ_cons, List.take_zero, List.drop_succ_cons, List.drop_zero]
      repeat still_step
      still_call HD.out
      repeat still_step
      refine wpStill_nil ?_
      change wpList _ _ _ _ _ ws.drew
      generalize ws.drew = wd at *
      go_wp2_with (refine wpList_store_mid rfl 143 (.tmp 44) (.tmp 43) rfl A.bv (2 * slotOf l) #[.int .i64 (c.op.key : Int), .int .i64 (c.op.value : Int)] rfl rfl HT.out (by kernel_rfl) (by simp [Value.oneCell']) ?_; generalize hws : World.setCells _ _ _ _ = ws; obtain ⟨k1, k2⟩ := HLY.out ws hws; have HK := Lib.hid (And.intro k1 k2); clear k1 k2 hws)
      go_ret
      obtain ⟨b0, b4, b1, b3, b2, b5, hrow⟩ := HG.out.2.2.2
      obtain ⟨r8, g8, g9⟩ := HK.out
      exact ⟨_, _, rfl, r8, g8, ⟨rfl, rfl, rfl, rfl, rfl, rfl, rfl, rfl, rfl, HG.out.2.2.1, rfl, fun _ _ => rfl, fun _ _ => rfl⟩, _, _, _, _, _, _, rfl, b0.grow g9, b4.grow g9, b1.grow g9, by have := b3.grow g9; rw [← HX.out] at this; exact this, b2.grow g9, _, b5.grow g9, hrow.grow g9⟩
  · have hvl := hv0.resolve_left h0
    rw [slot_link h0]
    have d1 : ((link : Int) == 0) = false := by simpa using h0
    have d2 : ((link : Int) = 0) = False := by simpa using h0
    have q1 := r6.call hc 1 (v := .int .i64 (c.op.key : Int)) rfl
    have q3 := r6.call hc 3 (v := .int .i64 (c.op.value : Int)) rfl
    have HD := Lib.hid (flip (data_any r6.drew link hvl.lo hvl.hi hvl.u))
    obtain ⟨t1, t2, t3⟩ := lay_any r6.drew s c hc link hvl
    have HT := Lib.hid t1
    have HLY : Hid (∀ ws, World.setCells ((((((w.alloc (.cells #[.pointer (some ⟨A.be, 0, none⟩)] 27)).alloc (.cells #[.pointer (some ⟨A.bt s, 0, none⟩)] 93)).alloc (.cells #[.pointer (some ⟨A.bc s, 0, none⟩)] 98)).alloc (.cells #[.pointer px] 193)).alloc (.cells #[.int .u64 (link : Int)] 24)).alloc (.cells #[.slice ha hn1 hcap] 242)).drew A.bv (2 * slotOf link) [.int .i64 (c.op.key : Int), .int .i64 (c.op.value : Int)] = ws → Rep A (σ.lay s link) ws ∧ Grow A.L ((((((w.alloc (.cells #[.pointer (some ⟨A.be, 0, none⟩)] 27)).alloc (.cells #[.pointer (some ⟨A.bt s, 0, none⟩)] 93)).alloc (.cells #[.pointer (some ⟨A.bc s, 0, none⟩)] 98)).alloc (.cells #[.pointer px] 193)).alloc (.cells #[.int .u64 (link : Int)] 24)).alloc (.cells #[.slice ha hn1 hcap] 242)).drew A.L ws) := Lib.hid (by rintro ws rfl; exact ⟨t2, t3⟩)
    have HB := Lib.hid (And.intro (g6.trans (Grow.drew _ _)) (And.intro (And.intro f0 (And.intro f4 (And.intro f1 (And.intro f3 (And.intro f2 f5))))) (And.intro hh6 (Grow.drew A.L ((((((w.alloc (.cells #[.pointer (some ⟨A.be, 0, none⟩)] 27)).alloc (.cells #[.pointer (some ⟨A.bt s, 0, none⟩)] 93)).alloc (.cells #[.pointer (some ⟨A.bc s, 0, none⟩)] 98)).alloc (.cells #[.pointer px] 193)).alloc (.cells #[.int .u64 (link : Int)] 24)).alloc (.cells #[.slice ha hn1 hcap] 242))))))
    clear hR hh hv0 hm hn hfree htag r6 g6 f0 f1 f2 f3 f4 f5 hh6 hvl h0 t1 t2 t3
    go_enter Tryz.func144, Tryz.ntmps144
    go_wp2_with fail
    generalize ((((((w.alloc (.cells #[.pointer (some ⟨A.be, 0, none⟩)] 27)).alloc (.cells #[.pointer (some ⟨A.bt s, 0, none⟩)] 93)).alloc (.cells #[.pointer (some ⟨A.bc s, 0, none⟩)] 98)).alloc (.cells #[.pointer px] 193)).alloc (.cells #[.int .u64 (link : Int)] 24)).alloc (.cells #[.slice ha hn1 hcap] 242)) = w6 at *
    refine wp_region_still_tail 15 (by kernel_rfl) (by kernel_rfl) ?_
    simp only [List.take_succ_cons, List.take_zero, List.drop_succ_cons, List.drop_zero]
    repeat still_step
    still_call HD.out
    repeat still_step
    refine wpStill_nil ?_
    change wpList _ _ _ _ _ w6.drew
    generalize w6.drew = wd at *
    go_wp2_with (refine wpList_store_mid rfl 143 (.tmp 44) (.tmp 43) rfl A.bv (2 * slotOf link) #[.int .i64 (c.op.key : Int), .int .i64 (c.op.value : Int)] rfl rfl HT.out (by kernel_rfl) (by simp [Value.oneCell']) ?_; generalize hws : World.setCells _ _ _ _ = ws; obtain ⟨k1, k2⟩ := HLY.out ws hws; have HK := Lib.hid (And.intro k1 k2); clear k1 k2 hws)
    go_ret
    obtain ⟨g7, ⟨f0, f4, f1, f3, f2, f5⟩, hh6, gd⟩ := HB.out
    obtain ⟨r8, g8⟩ := HK.out
    have g9 := gd.trans g8
    exact ⟨A, _, rfl, r8, g7.trans g8, Stay.refl _ _, _, _, _, _, _, _, rfl, (f0.grow g9).box, (f4.grow g9).box, (f1.grow g9).box, hx ▸ (f3.grow g9).box, (f2.grow g9).box, _, (f5.grow g9).box, hh6.grow g9⟩
end Go.Proofs.YtdgombgcjeelpaaGreat.Em
