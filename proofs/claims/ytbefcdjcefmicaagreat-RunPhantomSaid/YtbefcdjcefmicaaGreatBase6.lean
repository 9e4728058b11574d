/- Texts of this claim, laid together: Slt, Tp, Cp, Fre, Frk. -/
import Derived.Test.YtbefcdjcefmicaaGreatBase5
import Derived.Deep.MidRow
import Derived.Laws.ResultCell
import Derived.Laws.Rows
import Derived.Laws.EntriesVeiled
namespace Go.Proofs.YtbefcdjcefmicaaGreat.Em
open Go.ChangeShapes Go.WideShapes Go.ChangeAt Go.RowKit En
set_option linter.unusedVariables false
set_option linter.unusedSimpArgs false
set_option maxRecDepth 100000
set_option maxHeartbeats 1600000

theorem Grow.setNew {L L' : Lab} {w w' : World} (g : Grow L w L' w') {a : Addr} (h : w.heap.size ≤ a.block) (v : Value) : Grow L w L' (w'.setCell a v) :=
  ⟨g.os, g.tape, g.output, by simpa [World.setCell] using g.size, fun b hb hl => (Below.heap_setCell _ _ _ _ (by omega)).trans (g.block b hb hl), g.lab, fun b hb hl => (Below.heap_setCell _ _ _ _ (by omega)).trans (g.keep b hb hl)⟩
theorem Rep.setNew {A A1 : Book} {σ σ1 : St} {w w1 : World} (hR : Rep A σ w) (h1 : Rep A1 σ1 w1) (g : Grow A.L w A1.L w1) (ht : σ1.tale = σ.tale) (hcs : A1.taleCs = A.taleCs) {a : Addr} (hb : w.heap.size ≤ a.block) (hl : A1.L a.block = none) (v : Value) :
    Rep A1 σ1 (w1.setCell a v) ∧ Grow A.L w A1.L (w1.setCell a v) :=
  ⟨⟨h1.mem.setNone hl v, by rw [ht, hcs]; exact hR.ev.grow (g.setNew hb v), h1.sl, h1.nw, h1.nt, h1.nv, h1.n8, h1.nc⟩, g.setNew hb v⟩
theorem Fix.setOther {L : Lab} {w : World} {b : Nat} {o : Obj} (h : Fix L w b o) {a : Addr} (hne : b ≠ a.block) (v : Value) : Fix L (w.setCell a v) b o := ⟨h.1, (Below.heap_setCell _ _ _ _ hne).trans h.2⟩
theorem Fix.setSame {L : Lab} {w : World} {b : Nat} {u : Value} {T : TypeId} (h : Fix L w b (.cells #[u] T)) (v : Value) : Fix L (w.setCell ⟨b, 0, none⟩ v) b (.cells #[v] T) := by
  refine ⟨h.1, ?_⟩
  have := h.2
  simp only [World.setCell, Array.getElem?_modify, this]
  simp
theorem Fix.frozen {L : Lab} {w : World} {b : Nat} {cs : Array Value} {T : TypeId} (h : Fix L w b (.cells cs T)) (i : Nat) : w.frozen? ⟨b, i, none⟩ = false := by
  unfold World.frozen?
  simp only [h.2]
  simp
theorem take_VL {σ : St} {l : Nat} (hfree : ∀ i ∈ σ.list.free, i < σ.slots) (hs : σ.slots ≤ 256) (htag : ∀ i, i < σ.slots → (σ.tags.getD i (0, false)).1 ≤ 65535) (h : σ.take.2 = some l) : VL σ.take.1 l ∧ σ.take.1.slots = σ.slots := by
  have hsl : σ.list.slots = σ.slots := by unfold St.list; split <;> rfl
  have htg : σ.list.tags = σ.tags := by unfold St.list; split <;> rfl
  cases hlast : σ.list.free.getLast? with
  | none => rw [take_none hlast] at h; cases h
  | some i =>
    rw [take_some hlast] at h ⊢
    have hi := hfree i (List.mem_of_getLast? hlast)
    have ht := htag i hi
    simp only [Option.some.injEq] at h
    subst h
    refine ⟨⟨?_, ?_, ?_⟩, hsl⟩
    all_goals
      unfold St.linkAt linkOf
      rw [htg]
      first | omega | (dsimp only; omega)
/-- A version's own value. -/
def _root_.Go.Proofs.YtbefcdjcefmicaaGreat.En.St.lay (σ : St) (s l : Nat) : St := { σ with values := σ.values.set (slotOf l) ((σ.c s).op.key, (σ.c s).op.value) }
theorem slot_zero_none {σ : St} {s : Nat} {x : Bool} {head : Nat} (h : σ.take.2 = none) : σ.slot s x 0 head = (σ.take.1, .abort 14 5) := by
  unfold St.slot; simp only [if_pos]; generalize σ.take = p at *; obtain ⟨a, b⟩ := p; simp only at h; subst h; rfl
theorem slot_zero_some {σ : St} {s : Nat} {x : Bool} {head l : Nat} (h : σ.take.2 = some l) : σ.slot s x 0 head = (σ.take.1.lay s l, .slotB x l head) := by
  unfold St.slot; simp only [if_pos]; generalize σ.take = p at *; obtain ⟨a, b⟩ := p; simp only at h; subst h; rfl
theorem slot_link {σ : St} {s : Nat} {x : Bool} {head l : Nat} (h : l ≠ 0) : σ.slot s x l head = (σ.lay s l, .slotB x l head) := by
  unfold St.slot; rw [if_neg h]; rfl
/-- What stands when the value is laid. -/
theorem lay_any {A : Book} {σ : St} {w : World} (hR : Rep A σ w) (s : Nat) (c : Cal) (hc : σ.calls.getD s none = some c) (l : Nat) (hv : VL σ l) :
    w.there A.bv (2 * slotOf l) 2 ∧ Rep A (σ.lay s l) (w.setCells A.bv (2 * slotOf l) [.int .i64 (c.op.key : Int), .int .i64 (c.op.value : Int)]) ∧ Grow A.L w A.L (w.setCells A.bv (2 * slotOf l) [.int .i64 (c.op.key : Int), .int .i64 (c.op.value : Int)]) := by
  obtain ⟨r1, g1⟩ := hR.valLay (slotOf_lt hv) c.op.key c.op.value
  refine ⟨fun j hj => ⟨?_, hR.valF _⟩, by unfold St.lay; rw [call_get hc]; exact r1, g1⟩
  match j, hj with
  | 0, _ => rw [Nat.add_zero, (hR.val (slotOf_lt hv)).1]; rfl
  | 1, _ => rw [(hR.val (slotOf_lt hv)).2]; rfl
theorem slot_tells {A : Book} {σ : St} {w : World} (hR : Rep A σ w) (s : Nat) (c : Cal) (hc : σ.calls.getD s none = some c) (x : Bool) (link head : Nat) (hv : Value) (hh : FRow A.L w 1 hv (if x then [] else [u64 head])) (hv0 : link = 0 ∨ VL σ link)
    (hm : A.mp = 0) (hn : σ.free.length < 100000) (hfree : ∀ i ∈ σ.list.free, i < σ.slots) (htag : ∀ i, i < σ.slots → (σ.tags.getD i (0, false)).1 ≤ 65535) :
    Calls Tryz.prog 148 #[.pointer (some ⟨A.be, 0, none⟩), .pointer (some ⟨A.bt s, 0, none⟩), .pointer (some ⟨A.bc s, 0, none⟩), (kp A σ s).xo x, .int .u64 (link : Int), hv] w (Tells A w s (σ.slot s x link head)) := by
  obtain ⟨px, hx⟩ : ∃ px, (kp A σ s).xo x = .pointer px := by unfold KP.xo; split <;> exact ⟨_, rfl⟩
  obtain ⟨ha, hn1, hcap, hve⟩ : ∃ a n cap, hv = .slice a n cap := ⟨_, _, _, hh.choose_spec.choose_spec.choose_spec.1⟩
  rw [hx]
  subst hve
  obtain ⟨r6, g6, f0, f1, f2, f3, f4, f5⟩ := allocs6 hR #[.pointer (some ⟨A.be, 0, none⟩)] 27 #[.pointer (some ⟨A.bt s, 0, none⟩)] 102 #[.pointer (some ⟨A.bc s, 0, none⟩)] 107 #[.pointer px] 202 #[.int .u64 (link : Int)] 24 #[.slice ha hn1 hcap] 251
  have hh6 := hh.grow g6
  have k0 := f0.cell 0 rfl
  have k1 := f1.cell 0 rfl
  have k2 := f2.cell 0 rfl
  have k4 := f4.cell 0 rfl
  by_cases h0 : link = 0
  · have hslots : σ.take.1.slots = σ.slots := by unfold St.take; simp only; split <;> (unfold St.list; split <;> rfl)
    have htale : σ.take.1.tale = σ.tale := by unfold St.take; simp only; split <;> (unfold St.list; split <;> rfl)
    have hcalls : σ.take.1.calls = σ.calls := by unfold St.take; simp only; split <;> (unfold St.list; split <;> rfl)
    have e3 := r6.eng 3 (v := .pointer (some ⟨A.bp, 0, none⟩)) rfl
    have hz : ((link : Int) == 0) = true := by simpa using h0
    have hz2 : ((link : Int) = 0) = True := by simpa using h0
    have HT := Lib.hid (take_any r6 hm hn hfree htag)
    have FACT : ∀ L1 v1 m1 w1, Rep { A with L := L1, vfree := v1, mp := m1 } σ.take.1 w1 → Grow A.L ((((((w.alloc (.cells #[.pointer (some ⟨A.be, 0, none⟩)] 27)).alloc (.cells #[.pointer (some ⟨A.bt s, 0, none⟩)] 102)).alloc (.cells #[.pointer (some ⟨A.bc s, 0, none⟩)] 107)).alloc (.cells #[.pointer px] 202)).alloc (.cells #[.int .u64 (link : Int)] 24)).alloc (.cells #[.slice ha hn1 hcap] 251)) L1 w1 → ∀ l : Nat, w1.cell? ⟨w.heap.size, 0, none⟩ = some (.pointer (some ⟨A.be, 0, none⟩)) ∧ w1.cell? ⟨w.heap.size + 4, 0, none⟩ = some (.int .u64 (link : Int)) ∧ w1.frozen? ⟨w.heap.size + 4, 0, none⟩ = false ∧
        (w1.setCell ⟨w.heap.size + 4, 0, none⟩ (.int .u64 (l : Int))).cell? ⟨w.heap.size, 0, none⟩ = some (.pointer (some ⟨A.be, 0, none⟩)) ∧ (w1.setCell ⟨w.heap.size + 4, 0, none⟩ (.int .u64 (l : Int))).cell? ⟨w.heap.size + 1, 0, none⟩ = some (.pointer (some ⟨A.bt s, 0, none⟩)) ∧ (w1.setCell ⟨w.heap.size + 4, 0, none⟩ (.int .u64 (l : Int))).cell? ⟨w.heap.size + 2, 0, none⟩ = some (.pointer (some ⟨A.bc s, 0, none⟩)) ∧ (w1.setCell ⟨w.heap.size + 4, 0, none⟩ (.int .u64 (l : Int))).cell? ⟨w.heap.size + 4, 0, none⟩ = some (.int .u64 (l : Int)) ∧
        (w1.setCell ⟨w.heap.size + 4, 0, none⟩ (.int .u64 (l : Int))).cell? ⟨A.bc s, 1, none⟩ = some (.int .i64 (c.op.key : Int)) ∧ (w1.setCell ⟨w.heap.size + 4, 0, none⟩ (.int .u64 (l : Int))).cell? ⟨A.bc s, 3, none⟩ = some (.int .i64 (c.op.value : Int)) ∧
        Rep { A with L := L1, vfree := v1, mp := m1 } σ.take.1 (w1.setCell ⟨w.heap.size + 4, 0, none⟩ (.int .u64 (l : Int))) ∧ Grow A.L w L1 (w1.setCell ⟨w.heap.size + 4, 0, none⟩ (.int .u64 (l : Int))) ∧
        Box L1 (w1.setCell ⟨w.heap.size + 4, 0, none⟩ (.int .u64 (l : Int))) w.heap.size (.pointer (some ⟨A.be, 0, none⟩)) ∧ Box L1 (w1.setCell ⟨w.heap.size + 4, 0, none⟩ (.int .u64 (l : Int))) (w.heap.size + 4) (.int .u64 (l : Int)) ∧ Box L1 (w1.setCell ⟨w.heap.size + 4, 0, none⟩ (.int .u64 (l : Int))) (w.heap.size + 1) (.pointer (some ⟨A.bt s, 0, none⟩)) ∧ Box L1 (w1.setCell ⟨w.heap.size + 4, 0, none⟩ (.int .u64 (l : Int))) (w.heap.size + 3) (.pointer px) ∧ Box L1 (w1.setCell ⟨w.heap.size + 4, 0, none⟩ (.int .u64 (l : Int))) (w.heap.size + 2) (.pointer (some ⟨A.bc s, 0, none⟩)) ∧ Box L1 (w1.setCell ⟨w.heap.size + 4, 0, none⟩ (.int .u64 (l : Int))) (w.heap.size + 5) (.slice ha hn1 hcap) ∧ FRow L1 (w1.setCell ⟨w.heap.size + 4, 0, none⟩ (.int .u64 (l : Int))) 1 (.slice ha hn1 hcap) (if x then [] else [u64 head]) := by
      intro L1 v1 m1 w1 q1 q2 l
      have j0 := f0.grow q2
      have j1 := f1.grow q2
      have j2 := f2.grow q2
      have j3 := f3.grow q2
      have j4 := f4.grow q2
      have j5 := f5.grow q2
      obtain ⟨r7, g7⟩ := hR.setNew q1 (g6.trans q2) htale rfl (a := ⟨w.heap.size + 4, 0, none⟩) (by show w.heap.size ≤ w.heap.size + 4; omega) j4.1 (.int .u64 (l : Int))
      have i0 := j0.setOther (a := ⟨w.heap.size + 4, 0, none⟩) (by show w.heap.size ≠ w.heap.size + 4; omega) (.int .u64 (l : Int))
      have i1 := j1.setOther (a := ⟨w.heap.size + 4, 0, none⟩) (by show w.heap.size + 1 ≠ w.heap.size + 4; omega) (.int .u64 (l : Int))
      have i2 := j2.setOther (a := ⟨w.heap.size + 4, 0, none⟩) (by show w.heap.size + 2 ≠ w.heap.size + 4; omega) (.int .u64 (l : Int))
      have i3 := j3.setOther (a := ⟨w.heap.size + 4, 0, none⟩) (by show w.heap.size + 3 ≠ w.heap.size + 4; omega) (.int .u64 (l : Int))
      have i4 := j4.setSame (.int .u64 (l : Int))
      have i5 := j5.setOther (a := ⟨w.heap.size + 4, 0, none⟩) (by show w.heap.size + 5 ≠ w.heap.size + 4; omega) (.int .u64 (l : Int))
      have hc1 : σ.take.1.calls.getD s none = some c := by rw [hcalls]; exact hc
      exact ⟨j0.cell 0 rfl, j4.cell 0 rfl, j4.frozen 0, i0.cell 0 rfl, i1.cell 0 rfl, i2.cell 0 rfl, i4.cell 0 rfl, r7.call hc1 1 rfl, r7.call hc1 3 rfl, r7, g7, i0.box, i4.box, i1.box, i3.box, i2.box, i5.box, hh.grow g7⟩
    have hc1 : σ.take.1.calls.getD s none = some c := by rw [hcalls]; exact hc
    cases ht : σ.take.2 with
    | none =>
      have e : σ.slot s x link head = (σ.take.1, .abort 14 5) := by rw [h0]; exact slot_zero_none ht
      rw [e]
      rw [ht, show takeVal none = .tuple #[.int .u64 0, .int .i64 15] from rfl] at HT
      have HF := Lib.hid FACT
      clear hR hh hv0 hm hn hfree htag r6 g6 f0 f1 f2 f3 f4 f5 hh6 h0 e ht FACT hslots htale hcalls hc1 hc
      generalize σ.take.1 = σ1 at *
      go_enter Tryz.func148, Tryz.ntmps148
      go_wp2_with (first | (go_at_call 166; refine HT.out.mono ?_; rintro e w1 ⟨rfl, A1, ⟨⟨L1, v1, m1, rfl⟩, hm1⟩, q1, q2⟩; obtain ⟨c0, c4, z4, n0, n1, n2, n4, n5, n6, r7, g7, hb⟩ := HF.out L1 v1 m1 w1 q1 q2 0; rw [show ((0 : Nat) : Int) = 0 from rfl] at n0 n1 n2 n4 n5 n6 r7 g7; have HA := Lib.hid (abort_any r7 s 14 5); have HG := Lib.hid (And.intro g7 hm1); clear q1 q2 r7 g7 hb hm1) | (go_at_call 85; refine HA.out.mono ?_; rintro e w2 ⟨A2, v, rfl, p1, p2, p3, p4⟩))
      go_ret
      have hst : Stay A { A with L := L1, vfree := v1, mp := m1 } s := ⟨rfl, rfl, rfl, rfl, rfl, rfl, rfl, rfl, rfl, HG.out.2, rfl, fun _ _ => rfl, fun _ _ => rfl⟩
      exact ⟨A2, v, rfl, p1, HG.out.1.trans p2, hst.trans p3, p4⟩
    | some l =>
      have e : σ.slot s x link head = (σ.take.1.lay s l, .slotB x l head) := by rw [h0]; exact slot_zero_some ht
      rw [e]
      rw [ht, show takeVal (some l) = .tuple #[.int .u64 (l : Int), .int .i64 0] from rfl] at HT
      have hvl : VL σ.take.1 l := (take_VL hfree (by have := hR.sl; omega) htag ht).1
      have FIN : ∀ L1 v1 m1 ws, Rep { A with L := L1, vfree := v1, mp := m1 } σ.take.1 ws → Grow A.L w L1 ws → Calls Tryz.prog 64 #[.pointer (some ⟨A.be, 0, none⟩), .int .u64 (l : Int)] ws.drew (fun e w' => e = .returned (.pointer (some ⟨A.bv, 2 * slotOf l, none⟩)) ∧ w' = ws.drew) ∧ ws.drew.there A.bv (2 * slotOf l) 2 ∧ (∀ w', World.setCells ws.drew A.bv (2 * slotOf l) [.int .i64 (c.op.key : Int), .int .i64 (c.op.value : Int)] = w' → Rep { A with L := L1, vfree := v1, mp := m1 } (σ.take.1.lay s l) w' ∧ Grow A.L w L1 w' ∧ Grow L1 ws L1 w') := by
        intro L1 v1 m1 ws r7 g7
        obtain ⟨t1, t2, t3⟩ := lay_any r7.drew s c hc1 l hvl
        refine ⟨flip (data_any r7.drew l hvl.lo hvl.hi hvl.u), t1, ?_⟩
        rintro w' rfl
        have gd : Grow L1 ws L1 ws.drew := Grow.drew _ _
        exact ⟨t2, (g7.trans gd).trans t3, gd.trans t3⟩
      have HF := Lib.hid FACT
      have HN := Lib.hid FIN
      have hx' : (kp A σ.take.1 s).xo x = .pointer px := by
        rw [show kp A σ.take.1 s = kp A σ s by unfold kp St.c; rw [hcalls]]; exact hx
      have HX := Lib.hid hx'
      clear hR hh hv0 hm hn hfree htag r6 g6 f0 f1 f2 f3 f4 f5 hh6 h0 e ht FACT hslots htale hcalls hc1 hc hvl FIN hx hx'
      generalize σ.take.1 = σ1 at *
      go_enter Tryz.func148, Tryz.ntmps148
      go_wp2_with (go_at_call 166; refine HT.out.mono ?_; rintro e w1 ⟨rfl, A1, ⟨⟨L1, v1, m1, rfl⟩, hm1⟩, q1, q2⟩; obtain ⟨c0, c4, z4, n0, n1, n2, n4, n5, n6, r7, g7, hb⟩ := HF.out L1 v1 m1 w1 q1 q2 l; have HG := Lib.hid (And.intro r7 (And.intro g7 (And.intro hm1 hb))); clear q1 q2 r7 g7 hb hm1)
      generalize hws : World.setCell _ _ _ = ws at *
      obtain ⟨d0, d1, d2⟩ := HN.out L1 v1 m1 ws HG.out.1 HG.out.2.1
      have HD := Lib.hid d0
      clear HT
      have HT := Lib.hid d1
      have HLY := Lib.hid d2
      clear d0 d1 d2 HF HN hws
      refine wp_region_still_tail 15 (by kernel_rfl) (by kernel_rfl) ?_
      simp only [List.take_succ_cons, List.take_zero, List.drop_succ_cons, List.drop_zero]
      repeat still_step
      still_call HD.out
      repeat still_step
      refine wpStill_nil ?_
      change wpList _ _ _ _ _ ws.drew
      generalize ws.drew = wd at *
      go_wp2_with (refine wpList_store_mid rfl 153 (.tmp 44) (.tmp 43) rfl A.bv (2 * slotOf l) #[.int .i64 (c.op.key : Int), .int .i64 (c.op.value : Int)] rfl rfl HT.out (by kernel_rfl) (by simp [Value.oneCell']) ?_; generalize hws : World.setCells _ _ _ _ = ws; obtain ⟨k1, k2⟩ := HLY.out ws hws; have HK := Lib.hid (And.intro k1 k2); clear k1 k2 hws)
      go_ret
      obtain ⟨b0, b4, b1, b3, b2, b5, hrow⟩ := HG.out.2.2.2
      obtain ⟨r8, g8, g9⟩ := HK.out
      exact ⟨_, _, rfl, r8, g8, ⟨rfl, rfl, rfl, rfl, rfl, rfl, rfl, rfl, rfl, HG.out.2.2.1, rfl, fun _ _ => rfl, fun _ _ => rfl⟩, _, _, _, _, _, _, rfl, b0.grow g9, b4.grow g9, b1.grow g9, by have := b3.grow g9; rw [← HX.out] at this; exact this, b2.grow g9, _, b5.grow g9, hrow.grow g9⟩
  · have hvl := hv0.resolve_left h0
    rw [slot_link h0]
    have d1 : ((link : Int) == 0) = false := by simpa using h0
    have d2 : ((link : Int) = 0) = False := by simpa using h0
    have q1 := r6.call hc 1 (v := .int .i64 (c.op.key : Int)) rfl
    have q3 := r6.call hc 3 (v := .int .i64 (c.op.value : Int)) rfl
    have HD := Lib.hid (flip (data_any r6.drew link hvl.lo hvl.hi hvl.u))
    obtain ⟨t1, t2, t3⟩ := lay_any r6.drew s c hc link hvl
    have HT := Lib.hid t1
    have HLY : Hid (∀ ws, World.setCells ((((((w.alloc (.cells #[.pointer (some ⟨A.be, 0, none⟩)] 27)).alloc (.cells #[.pointer (some ⟨A.bt s, 0, none⟩)] 102)).alloc (.cells #[.pointer (some ⟨A.bc s, 0, none⟩)] 107)).alloc (.cells #[.pointer px] 202)).alloc (.cells #[.int .u64 (link : Int)] 24)).alloc (.cells #[.slice ha hn1 hcap] 251)).drew A.bv (2 * slotOf link) [.int .i64 (c.op.key : Int), .int .i64 (c.op.value : Int)] = ws → Rep A (σ.lay s link) ws ∧ Grow A.L ((((((w.alloc (.cells #[.pointer (some ⟨A.be, 0, none⟩)] 27)).alloc (.cells #[.pointer (some ⟨A.bt s, 0, none⟩)] 102)).alloc (.cells #[.pointer (some ⟨A.bc s, 0, none⟩)] 107)).alloc (.cells #[.pointer px] 202)).alloc (.cells #[.int .u64 (link : Int)] 24)).alloc (.cells #[.slice ha hn1 hcap] 251)).drew A.L ws) := Lib.hid (by rintro ws rfl; exact ⟨t2, t3⟩)
    have HB := Lib.hid (And.intro (g6.trans (Grow.drew _ _)) (And.intro (And.intro f0 (And.intro f4 (And.intro f1 (And.intro f3 (And.intro f2 f5))))) (And.intro hh6 (Grow.drew A.L ((((((w.alloc (.cells #[.pointer (some ⟨A.be, 0, none⟩)] 27)).alloc (.cells #[.pointer (some ⟨A.bt s, 0, none⟩)] 102)).alloc (.cells #[.pointer (some ⟨A.bc s, 0, none⟩)] 107)).alloc (.cells #[.pointer px] 202)).alloc (.cells #[.int .u64 (link : Int)] 24)).alloc (.cells #[.slice ha hn1 hcap] 251))))))
    clear hR hh hv0 hm hn hfree htag r6 g6 f0 f1 f2 f3 f4 f5 hh6 hvl h0 t1 t2 t3
    go_enter Tryz.func148, Tryz.ntmps148
    go_wp2_with fail
    generalize ((((((w.alloc (.cells #[.pointer (some ⟨A.be, 0, none⟩)] 27)).alloc (.cells #[.pointer (some ⟨A.bt s, 0, none⟩)] 102)).alloc (.cells #[.pointer (some ⟨A.bc s, 0, none⟩)] 107)).alloc (.cells #[.pointer px] 202)).alloc (.cells #[.int .u64 (link : Int)] 24)).alloc (.cells #[.slice ha hn1 hcap] 251)) = w6 at *
    refine wp_region_still_tail 15 (by kernel_rfl) (by kernel_rfl) ?_
    simp only [List.take_succ_cons, List.take_zero, List.drop_succ_cons, List.drop_zero]
    repeat still_step
    still_call HD.out
    repeat still_step
    refine wpStill_nil ?_
    change wpList _ _ _ _ _ w6.drew
    generalize w6.drew = wd at *
    go_wp2_with (refine wpList_store_mid rfl 153 (.tmp 44) (.tmp 43) rfl A.bv (2 * slotOf link) #[.int .i64 (c.op.key : Int), .int .i64 (c.op.value : Int)] rfl rfl HT.out (by kernel_rfl) (by simp [Value.oneCell']) ?_; generalize hws : World.setCells _ _ _ _ = ws; obtain ⟨k1, k2⟩ := HLY.out ws hws; have HK := Lib.hid (And.intro k1 k2); clear k1 k2 hws)
    go_ret
    obtain ⟨g7, ⟨f0, f4, f1, f3, f2, f5⟩, hh6, gd⟩ := HB.out
    obtain ⟨r8, g8⟩ := HK.out
    have g9 := gd.trans g8
    exact ⟨A, _, rfl, r8, g7.trans g8, Stay.refl _ _, _, _, _, _, _, _, rfl, (f0.grow g9).box, (f4.grow g9).box, (f1.grow g9).box, hx ▸ (f3.grow g9).box, (f2.grow g9).box, _, (f5.grow g9).box, hh6.grow g9⟩
end Go.Proofs.YtbefcdjcefmicaaGreat.Em

namespace Go.Proofs.YtbefcdjcefmicaaGreat.Em
open Go.ChangeShapes Go.WideShapes Go.ChangeAt Go.RowKit En
set_option linter.unusedVariables false
set_option linter.unusedSimpArgs false
set_option maxRecDepth 100000
set_option maxHeartbeats 1600000

def Book.tmp (A : Book) (b : Nat) : Book := { A with L := lab1 A.L b .tmp }
theorem mem_tmp (A : Book) (σ : St) (b : Nat) (q : Role) : memOf (A.tmp b) σ q = memOf A σ q := by cases q <;> rfl
theorem Stay.tmp (A : Book) (s b : Nat) : Stay A (A.tmp b) s := ⟨rfl, rfl, rfl, rfl, rfl, rfl, rfl, rfl, rfl, rfl, rfl, fun _ _ => rfl, fun _ _ => rfl⟩
/-- A variable is made. -/
theorem Rep.newTmp {A : Book} {σ : St} {w : World} (h : Rep A σ w) (o : Obj) : Rep (A.tmp w.heap.size) σ (w.alloc o) ∧ Grow A.L w (A.tmp w.heap.size).L (w.alloc o) ∧ (A.tmp w.heap.size).L w.heap.size = some .tmp ∧ (w.alloc o).heap[w.heap.size]? = some o := by
  have g : Grow A.L w (A.tmp w.heap.size).L (w.alloc o) := (Grow.alloc A.L w o).lab1 (Nat.le_refl _) _
  refine ⟨⟨⟨fun r => ?_, fun b hb => ?_⟩, h.ev.grow g, h.sl, h.nw, h.nt, h.nv, h.n8, h.nc⟩, g, lab1_same _ _ _, heap_alloc_new w o⟩
  · rw [mem_tmp]
    exact (h.mem.all r).frame (fun b hb _ => Below.heap_alloc w o b hb) (fun b hb => lab1_other (by omega))
  · have : w.heap.size + 1 ≤ b := by simpa using hb
    show lab1 A.L w.heap.size .tmp b = none
    rw [lab1_other (by omega)]
    exact h.mem.fresh b (by omega)
/-- A variable stays over a call. -/
theorem tmp_grow {L L' : Lab} {w w' : World} {b : Nat} {o : Obj} (h : L b = some .tmp ∧ w.heap[b]? = some o) (g : Grow L w L' w') : L' b = some .tmp ∧ w'.heap[b]? = some o := ⟨(g.lab b (lt_of h.2)).trans h.1, (g.keep b (lt_of h.2) h.1).trans h.2⟩
/-- Nothing but a variable's block turned. -/
structure But (b : Nat) (w w' : World) : Prop where
  os : w'.os = w.os
  tape : w'.tape = w.tape
  output : w'.output = w.output
  size : w'.heap.size = w.heap.size
  block : ∀ k, k ≠ b → w'.heap[k]? = w.heap[k]?
theorem But.setCell (w : World) (a : Addr) (v : Value) : But a.block w (w.setCell a v) := ⟨rfl, rfl, rfl, by simp [World.setCell], fun k hk => Below.heap_setCell _ _ _ _ hk⟩
theorem But.trans {b : Nat} {w w1 w2 : World} (h : But b w w1) (k : But b w1 w2) : But b w w2 := ⟨k.os.trans h.os, k.tape.trans h.tape, k.output.trans h.output, k.size.trans h.size, fun j hj => (k.block j hj).trans (h.block j hj)⟩
theorem But.setCells (b : Nat) : ∀ (vs : List Value) (o : Nat) (w : World), But b w (w.setCells b o vs)
  | [], _, w => ⟨rfl, rfl, rfl, rfl, fun _ _ => rfl⟩
  | v :: vs, o, w => (But.setCell w ⟨b, o, none⟩ v).trans (But.setCells b vs (o + 1) (w.setCell ⟨b, o, none⟩ v))
section
variable {L : Lab} {w w' : World} {b : Nat} (hl : L b = some .tmp) (h : But b w w')
include hl h
theorem Fix.but {k : Nat} {o : Obj} (f : Fix L w k o) : Fix L w' k o := ⟨f.1, (h.block k (by rintro rfl; have f1 := f.1; rw [hl] at f1; cases f1)).trans f.2⟩
theorem Box.but {k : Nat} {v : Value} (f : Box L w k v) : Box L w' k v := let ⟨T, f⟩ := f; ⟨T, f.but hl h⟩
theorem FRow.but {size : Nat} {v : Value} {xs : List Value} (f : FRow L w size v xs) : FRow L w' size v xs := by
  obtain ⟨ad, n, cap, rfl, e2, e3, e4, e5⟩ := f
  refine ⟨ad, n, cap, rfl, e2, e3, e4, ?_⟩
  rcases e5 with h0 | ⟨g, off, rfl, e7, e8, e9⟩
  · exact .inl h0
  · refine .inr ⟨g, off, rfl, e7, by rw [h.size]; exact e8, fun j hj => ?_⟩
    rw [World.cell?_of_block (w := w) (a := ⟨g, off + j, none⟩) (h.block g (by rintro rfl; rw [hl] at e7; cases e7))]
    exact e9 j hj
theorem PRow.but {v : Value} {xs : List Value} (f : PRow L w v xs) : PRow L w' v xs := by
  refine ⟨f.1.but hl h, fun g off n cap hv => ?_⟩
  rcases f.2 g off n cap hv with h0 | ⟨cs, hc⟩
  · exact .inl h0
  · by_cases hn : n = 0
    · exact .inl hn
    · obtain ⟨ad, n', cap', e1, e2, e3, e4, e5⟩ := f.1
      obtain ⟨rfl, rfl, rfl⟩ : ad = some ⟨g, off, none⟩ ∧ n' = n ∧ cap' = cap := by rw [hv] at e1; simp at e1; exact ⟨e1.1.symm, e1.2.1.symm, e1.2.2.symm⟩
      obtain ⟨g', off', e6, e7, _⟩ := e5.resolve_left hn
      obtain ⟨rfl, rfl⟩ : g = g' ∧ off = off' := by simpa using e6
      exact .inr ⟨cs, (h.block g (by rintro rfl; rw [hl] at e7; cases e7)).trans hc⟩
theorem Evs.but : ∀ {l : List Ev} {xs : List Value}, Evs L w l xs → Evs L w' l xs
  | [], _, f => f
  | _ :: _, _, ⟨vp, ys, h1, h2, h3⟩ => ⟨vp, ys, h1, h2.but hl h, Evs.but h3⟩
end
theorem Rep.but {A : Book} {σ : St} {w w' : World} {b : Nat} (hR : Rep A σ w) (hl : A.L b = some .tmp) (h : But b w w') : Rep A σ w' := by
  refine ⟨⟨fun r => ?_, fun k hk => hR.mem.fresh k (by rw [← h.size]; exact hk)⟩, hR.ev.but hl h, hR.sl, hR.nw, hR.nt, hR.nv, hR.n8, hR.nc⟩
  by_cases hr : r = .tmp
  · subst hr; trivial
  · refine (hR.mem.all r).frame (fun k hk hk' => h.block k ?_) (fun _ _ => rfl)
    rintro rfl
    rw [hl] at hk'
    exact hr (Option.some.inj hk').symm
theorem Grow.but {L L' : Lab} {w w1 w2 : World} {b : Nat} (g : Grow L w L' w1) (hb : w.heap.size ≤ b) (h : But b w1 w2) : Grow L w L' w2 :=
  ⟨h.os.trans g.os, h.tape.trans g.tape, h.output.trans g.output, by rw [h.size]; exact g.size, fun k hk hl => (h.block k (by omega)).trans (g.block k hk hl), g.lab, fun k hk hl => (h.block k (by omega)).trans (g.keep k hk hl)⟩
/-- Blocks without a label stay, and stay so. -/
structure Soft (L : Lab) (w : World) (L' : Lab) (w' : World) : Prop where
  size : w.heap.size ≤ w'.heap.size
  block : ∀ b, b < w.heap.size → L b = none → w'.heap[b]? = w.heap[b]?
  lab : ∀ b, b < w.heap.size → L b = none → L' b = none
section
variable {p : KP} {L L' : Lab} {w w' : World}
theorem Fix.soft {b : Nat} {o : Obj} (h : Fix L w b o) (g : Soft L w L' w') : Fix L' w' b o := ⟨g.lab b (lt_of h.2) h.1, (g.block b (lt_of h.2) h.1).trans h.2⟩
theorem Box.soft {b : Nat} {v : Value} (h : Box L w b v) (g : Soft L w L' w') : Box L' w' b v := let ⟨T, h⟩ := h; ⟨T, h.soft g⟩
theorem FRow.soft {size : Nat} {v : Value} {xs : List Value} (h : FRow L w size v xs) (g : Soft L w L' w') : FRow L' w' size v xs := by
  obtain ⟨a, n, cap, h1, h2, h3, h4, h5⟩ := h
  refine ⟨a, n, cap, h1, h2, h3, h4, ?_⟩
  rcases h5 with h5 | ⟨b, off, e1, e2, e3, e4⟩
  · exact .inl h5
  · refine .inr ⟨b, off, e1, g.lab b e3 e2, Nat.lt_of_lt_of_le e3 g.size, fun j hj => ?_⟩
    rw [World.cell?_of_block (w := w) (a := ⟨b, off + j, none⟩) (g.block b e3 e2)]
    exact e4 j hj
theorem ResBox.soft {b : Nat} {r : Res} (h : ResBox p L w b r) (g : Soft L w L' w') : ResBox p L' w' b r := let ⟨vp, T, h1, h2⟩ := h; ⟨vp, T, h1.soft g, h2⟩
theorem StampBox.soft {b n : Nat} (h : StampBox L w b n) (g : Soft L w L' w') : StampBox L' w' b n := let ⟨T, h1⟩ := h; ⟨T, h1.soft g⟩
theorem SeenBox.soft {b n : Nat} (h : SeenBox L w b n) (g : Soft L w L' w') : SeenBox L' w' b n := let ⟨T, k, q, h1⟩ := h; ⟨T, k, q, h1.soft g⟩
theorem HeadBox.soft {b n : Nat} {x : Bool} (h : HeadBox L w b x n) (g : Soft L w L' w') : HeadBox L' w' b x n := let ⟨v, h1, h2⟩ := h; ⟨v, h1.soft g, h2.soft g⟩
theorem ListBox.soft {b : Nat} {l : List Trn} (h : ListBox L w b l) (g : Soft L w L' w') : ListBox L' w' b l := let ⟨v, h1, h2⟩ := h; ⟨v, h1.soft g, h2.soft g⟩
theorem TellBox.soft {b k : Nat} (h : TellBox p L w b k) (g : Soft L w L' w') : TellBox p L' w' b k := let ⟨v, h1, c0, c1, e, k0, k1⟩ := h; ⟨v, h1.soft g, c0, c1, e, k0.soft g, k1.soft g⟩
theorem NextBox.soft {b l1 l2 l3 : Nat} (h : NextBox p L w b l1 l2 l3) (g : Soft L w L' w') : NextBox p L' w' b l1 l2 l3 := let ⟨v, h1, c0, c1, c2, c3, c4, c5, e, k0, k1, k2, k3, k4, k5⟩ := h; ⟨v, h1.soft g, c0, c1, c2, c3, c4, c5, e, k0.soft g, k1.soft g, k2.soft g, k3.soft g, k4.soft g, k5.soft g⟩
theorem TurnBox.soft {b l1 l2 : Nat} (h : TurnBox p L w b l1 l2) (g : Soft L w L' w') : TurnBox p L' w' b l1 l2 := let ⟨v, h1, c0, c1, c2, c3, c4, e, k0, k1, k2, k3, k4⟩ := h; ⟨v, h1.soft g, c0, c1, c2, c3, c4, e, k0.soft g, k1.soft g, k2.soft g, k3.soft g, k4.soft g⟩
theorem ThnRep.soft {v : Value} {key : Nat} {t : Thn} (h : ThnRep p L w v key t) (g : Soft L w L' w') : ThnRep p L' w' v key t :=
  match t, h with
  | .get, hh => let ⟨b0, b1, b2, b3, e, k0, k1, k2, k3⟩ := hh; ⟨b0, b1, b2, b3, e, k0.soft g, k1.soft g, k2.soft g, k3.soft g⟩
  | .scan k, hh => let ⟨b0, b1, b2, b3, b4, e, k0, k1, k2, k3, k4⟩ := hh; ⟨b0, b1, b2, b3, b4, e, k0.soft g, k1.soft g, k2.soft g, k3.soft g, k4.soft g⟩
  | .change, hh => let ⟨b0, b1, b2, b3, e, k0, k1, k2, k3⟩ := hh; ⟨b0, b1, b2, b3, e, k0.soft g, k1.soft g, k2.soft g, k3.soft g⟩
  | .judge i l, hh => let ⟨b0, b1, b2, b3, b4, e, k0, k1, k2, k3, k4⟩ := hh; ⟨b0, b1, b2, b3, b4, e, k0.soft g, k1.soft g, k2.soft g, k3.soft g, k4.soft g⟩
theorem HuntAt.soft {b : Nat} {h : Hunt} (hh : HuntAt p L w b h) (g : Soft L w L' w') : HuntAt p L' w' b h := let ⟨v, T, h1, h2⟩ := hh; ⟨v, T, h1.soft g, h2.soft g⟩
theorem HuntBox.soft {b : Nat} {h : Hunt} (hh : HuntBox p L w b h) (g : Soft L w L' w') : HuntBox p L' w' b h := let ⟨v, h1, h2⟩ := hh; ⟨v, h1.soft g, h2.soft g⟩
theorem KRep.soft {v : Value} {k : K} (h : KRep p L w v k) (g : Soft L w L' w') : KRep p L' w' v k :=
  match k, h with
  | .start _, ⟨bh, e, h1⟩ => ⟨bh, e, h1.soft g⟩
  | .fin r, hh => let ⟨b0, b1, b2, e, k0, k1, k2⟩ := hh; ⟨b0, b1, b2, e, k0.soft g, k1.soft g, k2.soft g⟩
  | .visit h link, hh => let ⟨b0, b1, e, k0, k1⟩ := hh; ⟨b0, b1, e, k0.soft g, k1.soft g⟩
  | .older h link, hh => let ⟨b0, b1, e, k0, k1⟩ := hh; ⟨b0, b1, e, k0.soft g, k1.soft g⟩
  | .maker h link id, hh => let ⟨b0, b1, b2, e, k0, k1, k2⟩ := hh; ⟨b0, b1, b2, e, k0.soft g, k1.soft g, k2.soft g⟩
  | .ended h link mb, hh => let ⟨b0, b1, b2, e, k0, k1, k2⟩ := hh; ⟨b0, b1, b2, e, k0.soft g, k1.soft g, k2.soft g⟩
  | .ender h link mb id, hh => let ⟨b0, b1, b2, b3, e, k0, k1, k2, k3⟩ := hh; ⟨b0, b1, b2, b3, e, k0.soft g, k1.soft g, k2.soft g, k3.soft g⟩
  | .seen h link mb, hh => let ⟨b0, b1, b2, e, k0, k1, k2⟩ := hh; ⟨b0, b1, b2, e, k0.soft g, k1.soft g, k2.soft g⟩
  | .again end_, hh => let ⟨b0, b1, b2, b3, e, k0, k1, k2, k3⟩ := hh; ⟨b0, b1, b2, b3, e, k0.soft g, k1.soft g, k2.soft g, k3.soft g⟩
  | .own link, hh => let ⟨b0, b1, b2, b3, e, k0, k1, k2, k3⟩ := hh; ⟨b0, b1, b2, b3, e, k0.soft g, k1.soft g, k2.soft g, k3.soft g⟩
  | .ownTxn link w1 id, hh => let ⟨b0, b1, b2, b3, b4, b5, e, k0, k1, k2, k3, k4, k5⟩ := hh; ⟨b0, b1, b2, b3, b4, b5, e, k0.soft g, k1.soft g, k2.soft g, k3.soft g, k4.soft g, k5.soft g⟩
  | .claim link w1, hh => let ⟨b0, b1, b2, b3, b4, e, k0, k1, k2, k3, k4⟩ := hh; ⟨b0, b1, b2, b3, b4, e, k0.soft g, k1.soft g, k2.soft g, k3.soft g, k4.soft g⟩
  | .fresh link, hh => let ⟨b0, b1, b2, b3, e, k0, k1, k2, k3⟩ := hh; ⟨b0, b1, b2, b3, e, k0.soft g, k1.soft g, k2.soft g, k3.soft g⟩
  | .next link head at_, hh => let ⟨b0, b1, b2, b3, b4, b5, e, k0, k1, k2, k3, k4, k5⟩ := hh; ⟨b0, b1, b2, b3, b4, b5, e, k0.soft g, k1.soft g, k2.soft g, k3.soft g, k4.soft g, k5.soft g⟩
  | .free link head at_, hh => let ⟨b0, b1, b2, b3, b4, b5, e, k0, k1, k2, k3, k4, k5⟩ := hh; ⟨b0, b1, b2, b3, b4, b5, e, k0.soft g, k1.soft g, k2.soft g, k3.soft g, k4.soft g, k5.soft g⟩
  | .freeTxn link head at_ id, hh => let ⟨b0, b1, b2, b3, b4, b5, e, k0, k1, k2, k3, k4, k5⟩ := hh; ⟨b0, b1, b2, b3, b4, b5, e, k0.soft g, k1.soft g, k2.soft g, k3.soft g, k4.soft g, k5.soft g⟩
  | .slotB x link head, hh => let ⟨b0, b1, b2, b3, b4, b5, e, k0, k1, k2, k3, k4, k5⟩ := hh; ⟨b0, b1, b2, b3, b4, b5, e, k0.soft g, k1.soft g, k2.soft g, k3.soft g, k4.soft g, k5.soft g⟩
  | .slotE x link head, hh => let ⟨b0, b1, b2, b3, b4, b5, e, k0, k1, k2, k3, k4, k5⟩ := hh; ⟨b0, b1, b2, b3, b4, b5, e, k0.soft g, k1.soft g, k2.soft g, k3.soft g, k4.soft g, k5.soft g⟩
  | .push link head, hh => let ⟨b0, b1, b2, b3, b4, e, k0, k1, k2, k3, k4⟩ := hh; ⟨b0, b1, b2, b3, b4, e, k0.soft g, k1.soft g, k2.soft g, k3.soft g, k4.soft g⟩
  | .pushC link head, hh => let ⟨b0, b1, b2, b3, b4, e, k0, k1, k2, k3, k4⟩ := hh; ⟨b0, b1, b2, b3, b4, e, k0.soft g, k1.soft g, k2.soft g, k3.soft g, k4.soft g⟩
  | .over link, hh => let ⟨b0, b1, b2, b3, b4, e, k0, k1, k2, k3, k4⟩ := hh; ⟨b0, b1, b2, b3, b4, e, k0.soft g, k1.soft g, k2.soft g, k3.soft g, k4.soft g⟩
  | .overN link head, hh => let ⟨b0, b1, b2, b3, b4, b5, e, k0, k1, k2, k3, k4, k5⟩ := hh; ⟨b0, b1, b2, b3, b4, b5, e, k0.soft g, k1.soft g, k2.soft g, k3.soft g, k4.soft g, k5.soft g⟩
  | .overC link head, hh => let ⟨b0, b1, b2, b3, b4, b5, e, k0, k1, k2, k3, k4, k5⟩ := hh; ⟨b0, b1, b2, b3, b4, b5, e, k0.soft g, k1.soft g, k2.soft g, k3.soft g, k4.soft g, k5.soft g⟩
  | .draw, hh => let ⟨b0, b1, b2, e, k0, k1, k2⟩ := hh; ⟨b0, b1, b2, e, k0.soft g, k1.soft g, k2.soft g⟩
  | .drawH w1 now, hh => let ⟨b0, b1, b2, e, k0, k1, k2⟩ := hh; ⟨b0, b1, b2, e, k0.soft g, k1.soft g, k2.soft g⟩
  | .turn w1 now, hh => let ⟨b0, b1, b2, b3, b4, e, k0, k1, k2, k3, k4⟩ := hh; ⟨b0, b1, b2, b3, b4, e, k0.soft g, k1.soft g, k2.soft g, k3.soft g, k4.soft g⟩
  | .helpJ, hh => let ⟨b0, b1, b2, e, k0, k1, k2⟩ := hh; ⟨b0, b1, b2, e, k0.soft g, k1.soft g, k2.soft g⟩
  | .wait i, hh => let ⟨b0, b1, b2, b3, b4, e, k0, k1, k2, k3, k4⟩ := hh; ⟨b0, b1, b2, b3, b4, e, k0.soft g, k1.soft g, k2.soft g, k3.soft g, k4.soft g⟩
  | .turns [] r, hh => let ⟨b0, b1, b2, b3, e, k0, k1, k2, k3⟩ := hh; ⟨b0, b1, b2, b3, e, k0.soft g, k1.soft g, k2.soft g, k3.soft g⟩
  | .turns (x :: l) r, hh => let ⟨b0, b1, b2, b3, b4, e, k0, k1, k2, k3, k4⟩ := hh; ⟨b0, b1, b2, b3, b4, e, k0.soft g, k1.soft g, k2.soft g, k3.soft g, k4.soft g⟩
  | .commit, hh => let ⟨b0, b1, b2, e, k0, k1, k2⟩ := hh; ⟨b0, b1, b2, e, k0.soft g, k1.soft g, k2.soft g⟩
  | .abort e reason, hh => let ⟨b0, b1, b2, b3, b4, e, k0, k1, k2, k3, k4⟩ := hh; ⟨b0, b1, b2, b3, b4, e, k0.soft g, k1.soft g, k2.soft g, k3.soft g, k4.soft g⟩
end
theorem But.soft {L : Lab} {w w' : World} {b : Nat} (hl : L b = some .tmp) (h : But b w w') : Soft L w L w' := ⟨by rw [h.size]; exact Nat.le_refl _, fun k hk e => h.block k (by rintro rfl; rw [hl] at e; cases e), fun _ _ e => e⟩
theorem heap_setCell_same {w : World} {b : Nat} {cs : Array Value} {T : TypeId} (h : w.heap[b]? = some (.cells cs T)) (i : Nat) (v : Value) : (w.setCell ⟨b, i, none⟩ v).heap[b]? = some (.cells (cs.setIfInBounds i v) T) := by
  simp only [World.setCell, Array.getElem?_modify, h]
  simp
/-- A block of six cells is stored into, whole. -/
theorem heap_setCells6 {w : World} {b : Nat} {a0 a1 a2 a3 a4 a5 : Value} {T : TypeId} (h : w.heap[b]? = some (.cells #[a0, a1, a2, a3, a4, a5] T)) (v0 v1 v2 v3 v4 v5 : Value) : (w.setCells b 0 [v0, v1, v2, v3, v4, v5]).heap[b]? = some (.cells #[v0, v1, v2, v3, v4, v5] T) := by
  have h1 := heap_setCell_same h 0 v0
  have h2 := heap_setCell_same h1 1 v1
  have h3 := heap_setCell_same h2 2 v2
  have h4 := heap_setCell_same h3 3 v3
  have h5 := heap_setCell_same h4 4 v4
  have h6 := heap_setCell_same h5 5 v5
  exact h6
theorem heap_setCells5 {w : World} {b : Nat} {a0 a1 a2 a3 a4 : Value} {T : TypeId} (h : w.heap[b]? = some (.cells #[a0, a1, a2, a3, a4] T)) (v0 v1 v2 v3 v4 : Value) : (w.setCells b 0 [v0, v1, v2, v3, v4]).heap[b]? = some (.cells #[v0, v1, v2, v3, v4] T) := by
  have h1 := heap_setCell_same h 0 v0
  have h2 := heap_setCell_same h1 1 v1
  have h3 := heap_setCell_same h2 2 v2
  have h4 := heap_setCell_same h3 3 v3
  have h5 := heap_setCell_same h4 4 v4
  exact h5
theorem there_of {w : World} {b : Nat} {cs : Array Value} {T : TypeId} (h : w.heap[b]? = some (.cells cs T)) : w.there b 0 cs.size := by
  intro j hj
  rw [Nat.zero_add]
  refine ⟨?_, by simp [World.frozen?, h]⟩
  rw [cell_of_row w b j _ _ _ h]
  simp [hj]
end Go.Proofs.YtbefcdjcefmicaaGreat.Em

namespace Go.Proofs.YtbefcdjcefmicaaGreat.Em
open Go.ChangeShapes Go.WideShapes Go.ChangeAt Go.RowKit En
set_option linter.unusedVariables false
set_option linter.unusedSimpArgs false
set_option maxRecDepth 100000
set_option maxHeartbeats 1600000

theorem results_cell_tmp_row {P : Program} {fn : Func} {p u : Tmp} {ty : TypeId} (h : fn.results = #[.cell p ty, .tmp u]) (tmps : Array Value) (w : World) (g : Nat) (t : TypeId) (cs : Array Value) (fr : Nat × Nat) (d : TypeDesc)
    (hp : tmps.getD p undef = .pointer (some ⟨g, 0, none⟩)) (hg : w.heap[g]? = some (.cells cs t fr))
    (hu : P.underlying ty = some d) (hd : (match d with | .struct _ | .array _ _ => true | _ => false) = true) (hi : (P.info? ty).map (·.size) = some cs.size) :
    (results fn tmps).run P w = .ok (.tuple #[.agg cs, tmps.getD u undef]) w := by
  rw [results_cell_tmp h, hp]
  simp [asAddr, run_loadVar_row w g t ty cs fr d hg hu hd hi, Result.andThen]
theorem copied_nil (w : World) (re rv ro rr : Int) (a : Option Addr) (cap : Nat) :
    Calls Tryz.prog 54 #[.agg #[.int .i64 re, .int .i64 rv, .slice a 0 cap, .int .i64 ro, .int .i64 rr]] w fun e w' => e = .returned (.agg #[.int .i64 re, .int .i64 rv, .slice none 0 0, .int .i64 ro, .int .i64 rr]) ∧ Below w.heap.size w w' := by
  have hb : Below w.heap.size w (((w.alloc (.cells #[.int .i64 re, .int .i64 rv, .slice none 0 0, .int .i64 ro, .int .i64 rr] 42))).alloc (.cells #[.int .i64 re, .int .i64 rv, .slice none 0 0, .int .i64 ro, .int .i64 rr] 42)) := (((Below.refl _ _).alloc (Nat.le_refl _) _)).alloc (by simp) _
  have HB := Lib.hid hb
  clear hb
  cases a with
  | none =>
    go_enter Tryz.func54, Tryz.ntmps54
    go_wp2
    (try simp only [Exit.inBlock, Exit.then])
    refine bodyPost_ret (results_cell_row rfl _ _ (w.heap.size + 1) 42 #[.int .i64 re, .int .i64 rv, .slice none 0 0, .int .i64 ro, .int .i64 rr] _ _ rfl (heap_alloc2_new w _ _) Tryz.underlying42 rfl (by kernel_rfl)) rfl ?_
    exact ⟨rfl, HB.out⟩
  | some x =>
    go_enter Tryz.func54, Tryz.ntmps54
    go_wp2
    (try simp only [Exit.inBlock, Exit.then])
    refine bodyPost_ret (results_cell_row rfl _ _ (w.heap.size + 1) 42 #[.int .i64 re, .int .i64 rv, .slice none 0 0, .int .i64 ro, .int .i64 rr] _ _ rfl (heap_alloc2_new w _ _) Tryz.underlying42 rfl (by kernel_rfl)) rfl ?_
    exact ⟨rfl, HB.out⟩
end Go.Proofs.YtbefcdjcefmicaaGreat.Em

namespace Go.Proofs.YtbefcdjcefmicaaGreat.Em
open Go.ChangeShapes Go.WideShapes Go.ChangeAt Go.RowKit En
set_option linter.unusedVariables false
set_option linter.unusedSimpArgs false
set_option maxRecDepth 100000
set_option maxHeartbeats 1600000

theorem free_any {A : Book} {σ : St} {w : World} (hR : Rep A σ w) (s : Nat) (c : Cal) (hc : σ.calls.getD s none = some c) (link head at_ : Nat) (hv0 : link = 0 ∨ VL σ link)
    (hm : A.mp = 0) (hn : σ.free.length < 100000) (hfree : ∀ i ∈ σ.list.free, i < σ.slots) (htag : ∀ i, i < σ.slots → (σ.tags.getD i (0, false)).1 ≤ 65535) :
    Calls Tryz.prog 151 #[.pointer (some ⟨A.be, 0, none⟩), .pointer (some ⟨A.bt s, 0, none⟩), .pointer (some ⟨A.bc s, 0, none⟩), .int .u64 (link : Int), .int .u64 (head : Int), .int .u64 (at_ : Int)] w (Tells A w s (σ.freeK s link head at_)) := by
  obtain ⟨r6, g6, f0, f1, f2, f3, f4, f5⟩ := allocs6 hR #[.pointer (some ⟨A.be, 0, none⟩)] 27 #[.pointer (some ⟨A.bt s, 0, none⟩)] 102 #[.pointer (some ⟨A.bc s, 0, none⟩)] 107 #[.int .u64 (link : Int)] 24 #[.int .u64 (head : Int)] 24 #[.int .u64 (at_ : Int)] 24
  have k0 := f0.cell 0 rfl
  have k1 := f1.cell 0 rfl
  have k2 := f2.cell 0 rfl
  have k3 := f3.cell 0 rfl
  have k4 := f4.cell 0 rfl
  have k5 := f5.cell 0 rfl
  unfold St.freeK
  by_cases h0 : at_ = 0
  · rw [if_pos h0]
    have d1 : ((at_ : Int) == 0) = true := by simpa using h0
    have d2 : ((at_ : Int) = 0) = True := by simpa using h0
    obtain ⟨r7, g7, f6⟩ := allocs1 r6 #[.int .u64 (head : Int)] 24
    have hrow : FRow A.L (((((((w.alloc (.cells #[.pointer (some ⟨A.be, 0, none⟩)] 27)).alloc (.cells #[.pointer (some ⟨A.bt s, 0, none⟩)] 102)).alloc (.cells #[.pointer (some ⟨A.bc s, 0, none⟩)] 107)).alloc (.cells #[.int .u64 (link : Int)] 24)).alloc (.cells #[.int .u64 (head : Int)] 24)).alloc (.cells #[.int .u64 (at_ : Int)] 24)).alloc (.cells #[.int .u64 (head : Int)] 24)) 1 (.slice (some ⟨w.heap.size + 6, 0, none⟩) 1 1) (if false then [] else [u64 head]) := by
      rw [show ((((((w.alloc (.cells #[.pointer (some ⟨A.be, 0, none⟩)] 27)).alloc (.cells #[.pointer (some ⟨A.bt s, 0, none⟩)] 102)).alloc (.cells #[.pointer (some ⟨A.bc s, 0, none⟩)] 107)).alloc (.cells #[.int .u64 (link : Int)] 24)).alloc (.cells #[.int .u64 (head : Int)] 24)).alloc (.cells #[.int .u64 (at_ : Int)] 24)).heap.size = w.heap.size + 6 by simp] at f6
      refine ⟨_, _, _, rfl, rfl, by omega, by unfold maxLen; omega, .inr ⟨_, 0, rfl, f6.1, ?_, ?_⟩⟩
      · simp
      · intro j hj
        have hj0 : j = 0 := by omega
        subst hj0
        exact f6.cell 0 rfl
    have HS := Lib.hid (slot_tells r7 s c hc false link head _ hrow hv0 hm hn hfree htag)
    have HG := Lib.hid (g6.trans g7)
    clear hR hc hv0 hm hn hfree htag h0 hrow r6 g6 r7 g7 f0 f1 f2 f3 f4 f5 f6
    go_enter Tryz.func151, Tryz.ntmps151
    go_wp2_with (go_at_call 148; refine HS.out.mono ?_; rintro e w2 ⟨A2, v, rfl, p1, p2, p3, p4⟩)
    go_ret
    exact ⟨A2, v, rfl, p1, HG.out.trans p2, p3, p4⟩
  · rw [if_neg h0]
    have d1 : ((at_ : Int) == 0) = false := by simpa using h0
    have d2 : ((at_ : Int) = 0) = False := by simpa using h0
    obtain ⟨r7, g7, f6⟩ := allocs1 r6 #[.func (.func 171) #[] #[.pointer (some ⟨w.heap.size, 0, none⟩), .pointer (some ⟨w.heap.size + 1, 0, none⟩), .pointer (some ⟨w.heap.size + 2, 0, none⟩), .pointer (some ⟨w.heap.size + 3, 0, none⟩), .pointer (some ⟨w.heap.size + 4, 0, none⟩), .pointer (some ⟨w.heap.size + 5, 0, none⟩)]] 130
    have HG := Lib.hid (And.intro r7 (And.intro (g6.trans g7) (And.intro (f0.grow g7).box (And.intro (f1.grow g7).box (And.intro (f2.grow g7).box (And.intro (f3.grow g7).box (And.intro (f4.grow g7).box (And.intro (f5.grow g7).box f6.box))))))))
    clear hR hc hv0 hm hn hfree htag h0 r6 g6 r7 g7 f0 f1 f2 f3 f4 f5 f6
    go_enter Tryz.func151, Tryz.ntmps151
    go_wp2
    go_ret
    obtain ⟨r7, g7, f0, f1, f2, f3, f4, f5, f6⟩ := HG.out
    have hsz : ((((((w.alloc (.cells #[.pointer (some ⟨A.be, 0, none⟩)] 27)).alloc (.cells #[.pointer (some ⟨A.bt s, 0, none⟩)] 102)).alloc (.cells #[.pointer (some ⟨A.bc s, 0, none⟩)] 107)).alloc (.cells #[.int .u64 (link : Int)] 24)).alloc (.cells #[.int .u64 (head : Int)] 24)).alloc (.cells #[.int .u64 (at_ : Int)] 24)).heap.size = w.heap.size + 6 := by simp
    rw [hsz] at f6
    exact ⟨A, _, rfl, r7, g7, Stay.refl _ _, _, _, _, _, _, _, rfl, f0, f5, f1, ⟨_, f6, _, _, _, _, _, _, rfl, f0, f1, f2, f3, f4, f5⟩, f2, f3⟩
end Go.Proofs.YtbefcdjcefmicaaGreat.Em

namespace Go.Proofs.YtbefcdjcefmicaaGreat.Em
open Go.ChangeShapes Go.WideShapes Go.ChangeAt Go.RowKit En
set_option linter.unusedVariables false
set_option linter.unusedSimpArgs false
set_option maxRecDepth 100000
set_option maxHeartbeats 1600000

/-- The pool is as it may be. -/
structure PoolOk (σ : St) : Prop where
  n : σ.free.length < 100000
  free : ∀ i ∈ σ.free, i < σ.slots
  tag : ∀ i, i < σ.slots → (σ.tags.getD i (0, false)).1 ≤ 65535
  worn : σ.worn < 1000000
theorem PoolOk.list {σ : St} (h : PoolOk σ) : ∀ i ∈ σ.list.free, i < σ.slots := by
  unfold St.list
  split
  · exact h.free
  · intro i hi
    rcases List.mem_append.1 hi with h1 | h1
    · exact h.free i h1
    · simpa using h1
theorem load_i {A : Book} {σ : St} {w : World} (h : Rep A σ w) (i : Nat) (z : Int) (hz : z = (i : Int)) (hi : i < σ.words.length) (hc : σ.count < 4000000000000000000) :
    Calls Tryz.prog 73 #[.pointer (some ⟨A.ba, 0, none⟩), .int .i64 z] w (Did A w σ.tick (.int .u64 (σ.word i : Int))) := by subst hz; exact load_any h i hi hc
theorem k_fresh {A : Book} {σ : St} {w : World} (hR : Rep A σ w) (s : Nat) (c : Cal) (hc : σ.calls.getD s none = some c) (link : Nat) (hv0 : link = 0 ∨ VL σ link) (hk : c.op.key < 64) (hm : A.mp = 0) (hp : PoolOk σ) (hcnt : σ.count < 4000000000000000000)
    (b0 b1 b2 b3 : Nat) (B0 : Box A.L w b0 (.pointer (some ⟨A.be, 0, none⟩))) (B1 : Box A.L w b1 (.pointer (some ⟨A.bc s, 0, none⟩))) (B2 : Box A.L w b2 (.pointer (some ⟨A.bt s, 0, none⟩))) (B3 : Box A.L w b3 (.int .u64 (link : Int))) :
    Calls Tryz.prog 150 #[.pointer (some ⟨b0, 0, none⟩), .pointer (some ⟨b1, 0, none⟩), .pointer (some ⟨b2, 0, none⟩), .pointer (some ⟨b3, 0, none⟩)] w (Ran A w s (σ.run s (.fresh link))) := by
  have c0 := B0.cell
  have c1 := B1.cell
  have e2 : w.cell? ⟨A.be, 2, none⟩ = some (.pointer (some ⟨A.ba, 0, none⟩)) := hR.eng 2 rfl
  have k1 : w.cell? ⟨A.bc s, 1, none⟩ = some (.int .i64 (c.op.key : Int)) := hR.call hc 1 rfl
  have n1 : IntKind.i64.wrap (9 + (c.op.key : Int)) = 9 + (c.op.key : Int) := by rw [IntKind.wrap_i64]; omega
  have HL := Lib.hid (load_i hR.drew (9 + c.op.key) (9 + (c.op.key : Int)) (by omega) (by rw [hR.nw]; omega) hcnt)
  have hrun : σ.run s (.fresh link) = (((σ.tick.freeK s link (σ.word (9 + c.op.key)) (σ.word (9 + c.op.key)))).1, some ((σ.tick.freeK s link (σ.word (9 + c.op.key)) (σ.word (9 + c.op.key)))).2) := by
    simp only [St.run, call_get hc]
  rw [hrun]
  have HB : Hid (∀ w1, Rep A σ.tick w1 → Grow A.L w.drew A.L w1 → Calls Tryz.prog 151 #[.pointer (some ⟨A.be, 0, none⟩), .pointer (some ⟨A.bt s, 0, none⟩), .pointer (some ⟨A.bc s, 0, none⟩), .int .u64 (link : Int), .int .u64 (σ.word (9 + c.op.key) : Int), .int .u64 (σ.word (9 + c.op.key) : Int)] w1 (Tells A w1 s (σ.tick.freeK s link (σ.word (9 + c.op.key)) (σ.word (9 + c.op.key)))) ∧ w1.cell? ⟨b0, 0, none⟩ = some (.pointer (some ⟨A.be, 0, none⟩)) ∧ w1.cell? ⟨b1, 0, none⟩ = some (.pointer (some ⟨A.bc s, 0, none⟩)) ∧ w1.cell? ⟨b2, 0, none⟩ = some (.pointer (some ⟨A.bt s, 0, none⟩)) ∧ w1.cell? ⟨b3, 0, none⟩ = some (.int .u64 (link : Int)) ∧ Grow A.L w A.L w1) := by
    intro w1 q1 q2
    have g : Grow A.L w A.L w1 := (Grow.drew _ _).trans q2
    exact ⟨free_any q1 s c hc link _ _ (hv0.imp id fun h => ⟨h.lo, h.hi, h.u⟩) hm hp.n (PoolOk.list (σ := σ.tick) ⟨hp.n, hp.free, hp.tag, hp.worn⟩) hp.tag, (B0.grow g).cell, (B1.grow g).cell, (B2.grow g).cell, (B3.grow g).cell, g⟩
  clear hR hc hv0 hm hp hcnt B0 B1 B2 B3 hrun hk
  generalize σ.tick.freeK s link (σ.word (9 + c.op.key)) (σ.word (9 + c.op.key)) = res at *
  generalize σ.word (9 + c.op.key) = hd at *
  generalize c.op.key = key at *
  go_enter Tryz.func150, Tryz.ntmps150
  go_wp2_with fail
  refine wp_region_still_tail 10 (by kernel_rfl) (by kernel_rfl) ?_
  simp only [List.take_succ_cons, List.take_zero, List.drop_succ_cons, List.drop_zero]
  repeat still_step
  refine wpStill_nil ?_
  change wpList _ _ _ _ _ w.drew
  generalize w.drew = wd at *
  go_wp2_with (first | (go_at_call 73; refine HL.out.mono ?_; rintro e w1 ⟨rfl, q1, q2⟩; obtain ⟨hf, d0, d1, d2, d3, g1⟩ := HB.out w1 q1 q2; have HF := Lib.hid (And.intro hf g1); clear q1 q2 hf g1) | (go_at_call 151; refine HF.out.1.mono ?_; rintro e w2 ⟨A2, v, rfl, p1, p2, p3, p4⟩))
  go_ret
  exact ⟨A2, v, rfl, p1, HF.out.2.trans p2, p3, p4⟩

theorem k_next {A : Book} {σ : St} {w : World} (hR : Rep A σ w) (s : Nat) (c : Cal) (hc : σ.calls.getD s none = some c) (link head at_ : Nat) (hv0 : link = 0 ∨ VL σ link) (hv : VL σ at_) (hm : A.mp = 0) (hp : PoolOk σ) (hcnt : σ.count < 4000000000000000000)
    (b0 b1 b2 b3 b4 b5 : Nat) (B0 : Box A.L w b0 (.pointer (some ⟨A.be, 0, none⟩))) (B1 : Box A.L w b1 (.pointer (some ⟨A.bt s, 0, none⟩))) (B2 : Box A.L w b2 (.pointer (some ⟨A.bc s, 0, none⟩))) (B3 : Box A.L w b3 (.int .u64 (link : Int))) (B4 : Box A.L w b4 (.int .u64 (head : Int))) (B5 : Box A.L w b5 (.int .u64 (at_ : Int))) :
    Calls Tryz.prog 171 #[.pointer (some ⟨b0, 0, none⟩), .pointer (some ⟨b1, 0, none⟩), .pointer (some ⟨b2, 0, none⟩), .pointer (some ⟨b3, 0, none⟩), .pointer (some ⟨b4, 0, none⟩), .pointer (some ⟨b5, 0, none⟩)] w (Ran A w s (σ.run s (.next link head at_))) := by
  have c0 := B0.cell
  have c1 := B1.cell
  have c2 := B2.cell
  have c3 := B3.cell
  have c4 := B4.cell
  have c5 := B5.cell
  have hsl := hR.sl
  have e2 : w.cell? ⟨A.be, 2, none⟩ = some (.pointer (some ⟨A.ba, 0, none⟩)) := hR.eng 2 rfl
  have HS := Lib.hid (slot_at at_ 2 2 rfl hv.lo (by have := hv.hi; omega) hv.u (by omega))
  have HL := Lib.hid (load_any hR.drew (wslot at_ 2) (wslot_lt hR hv.lo hv.hi (by omega)) hcnt)
  have HG : Hid (Grow A.L w A.L w.drew) := Grow.drew _ _
  have HK : Hid (∀ w', Kp A w w' → w'.cell? ⟨b0, 0, none⟩ = some (.pointer (some ⟨A.be, 0, none⟩)) ∧ w'.cell? ⟨b1, 0, none⟩ = some (.pointer (some ⟨A.bt s, 0, none⟩)) ∧ w'.cell? ⟨b2, 0, none⟩ = some (.pointer (some ⟨A.bc s, 0, none⟩)) ∧ w'.cell? ⟨b3, 0, none⟩ = some (.int .u64 (link : Int)) ∧ w'.cell? ⟨b4, 0, none⟩ = some (.int .u64 (head : Int)) ∧ w'.cell? ⟨b5, 0, none⟩ = some (.int .u64 (at_ : Int)) ∧ w'.cell? ⟨A.be, 2, none⟩ = some (.pointer (some ⟨A.ba, 0, none⟩))) := by
    obtain ⟨_, x0⟩ := B0
    obtain ⟨_, x1⟩ := B1
    obtain ⟨_, x2⟩ := B2
    obtain ⟨_, x3⟩ := B3
    obtain ⟨_, x4⟩ := B4
    obtain ⟨_, x5⟩ := B5
    exact fun w' k => ⟨k.fix _ _ _ x0.1 c0, k.fix _ _ _ x1.1 c1, k.fix _ _ _ x2.1 c2, k.fix _ _ _ x3.1 c3, k.fix _ _ _ x4.1 c4, k.fix _ _ _ x5.1 c5, k.ea⟩
  have hrun : σ.run s (.next link head at_) = ((σ.tick.freeK s link head (σ.word (wslot at_ 2))).1, some (σ.tick.freeK s link head (σ.word (wslot at_ 2))).2) := rfl
  rw [hrun]
  have HB : Hid (∀ w1, Rep A σ.tick w1 → Calls Tryz.prog 151 #[.pointer (some ⟨A.be, 0, none⟩), .pointer (some ⟨A.bt s, 0, none⟩), .pointer (some ⟨A.bc s, 0, none⟩), .int .u64 (link : Int), .int .u64 (head : Int), .int .u64 (σ.word (wslot at_ 2) : Int)] w1 (Tells A w1 s (σ.tick.freeK s link head (σ.word (wslot at_ 2))))) :=
    fun w1 q1 => free_any q1 s c hc link _ _ (hv0.imp id fun h => ⟨h.lo, h.hi, h.u⟩) hm hp.n (PoolOk.list (σ := σ.tick) ⟨hp.n, hp.free, hp.tag, hp.worn⟩) hp.tag
  clear hR hc hv0 hv hm hp hcnt B0 B1 B2 B3 B4 B5 hrun hsl
  go_enter Tryz.func171, Tryz.ntmps171
  go_wp2_with fail
  go_region_held3 (fun w' => w'.cell? ⟨b0, 0, none⟩ = some (.pointer (some ⟨A.be, 0, none⟩)) ∧ w'.cell? ⟨b1, 0, none⟩ = some (.pointer (some ⟨A.bt s, 0, none⟩)) ∧ w'.cell? ⟨b2, 0, none⟩ = some (.pointer (some ⟨A.bc s, 0, none⟩)) ∧ w'.cell? ⟨b3, 0, none⟩ = some (.int .u64 (link : Int)) ∧ w'.cell? ⟨b4, 0, none⟩ = some (.int .u64 (head : Int)) ∧ w'.cell? ⟨b5, 0, none⟩ = some (.int .u64 (at_ : Int)) ∧ w'.cell? ⟨A.be, 2, none⟩ = some (.pointer (some ⟨A.ba, 0, none⟩)))
    (first | exact ⟨c0, c1, c2, c3, c4, c5, e2⟩ | assumption | exact HK.out _ (Kp.of (by assumption) (by assumption) (by assumption)))
    (first | (go_at_call 62; refine (HS.out _).mono ?_; rintro e w' ⟨rfl, rfl⟩) | (go_at_call 73; refine HL.out.mono ?_; rintro e w1 ⟨rfl, q1, q2⟩; have q4 := HG.out.trans q2; have q3 := Stay.refl A s; clear q2) | (go_at_call 151; refine (HB.out _ (by assumption)).mono ?_; rintro e w2 ⟨A', v, rfl, p1, p2, p3, p4⟩; have p5 := (‹Grow A.L w A.L _›).trans p2))
  go_wp2_with fail
  go_ret
  exact ⟨A', _, rfl, p1, p5, p3, p4⟩
end Go.Proofs.YtbefcdjcefmicaaGreat.Em
