/- Texts of this claim, laid together: Sre, Swa, Swc, Swg, Swf. -/
import Derived.Test.YtbefcdjcefmicaaGreatBase4
import Derived.Test.YtbefcdjcefmicaaGreatBase6
import Derived.Test.YtbefcdjcefmicaaGreatBase5
import Derived.Deep.RegionHeld3
import Derived.Test.YtbefcdjcefmicaaGreatBase11
import Derived.Test.YtbefcdjcefmicaaGreatBase15
import Derived.Deep.Cut
import Derived.Deep.QuietTactic
import Derived.BigQuiet
import Derived.StillTailTactics
namespace Go.Proofs.YtbefcdjcefmicaaGreat.Em
open Go.ChangeShapes Go.WideShapes Go.ChangeAt Go.RowKit En
set_option linter.unusedVariables false
set_option linter.unusedSimpArgs false
set_option maxRecDepth 100000
set_option maxHeartbeats 1600000

/-- What the next step of sweeping is, as a closure. -/
def SRep (e : Nat) (L : Lab) (w : World) (v : Value) : Option S → Prop
  | none => v = .nilFunc
  | some .now => v = .func (.func 106) #[ptr e] #[]
  | some (.live s) => ∃ b0 b1, v = .func (.func 160) #[] #[ptr b0, ptr b1] ∧ Box L w b0 (ptr e) ∧ Box L w b1 (i64 s)
  | some (.head key) => ∃ b0 b1, v = .func (.func 178) #[] #[ptr b0, ptr b1] ∧ Box L w b0 (ptr e) ∧ Box L w b1 (i64 key)
  | some (.visit key ahead link) => ∃ b0 b1 b2 b3, v = .func (.func 194) #[] #[ptr b0, ptr b1, ptr b2, ptr b3] ∧ Box L w b0 (ptr e) ∧ Box L w b1 (u64 link) ∧ Box L w b2 (i64 key) ∧ Box L w b3 (u64 ahead)
  | some (.maker key ahead link id) => ∃ b0 b1 b2 b3 b4, v = .func (.func 204) #[] #[ptr b0, ptr b1, ptr b2, ptr b3, ptr b4] ∧ Box L w b0 (ptr e) ∧ Box L w b1 (i64 id) ∧ Box L w b2 (i64 key) ∧ Box L w b3 (u64 ahead) ∧ Box L w b4 (u64 link)
  | some (.garbage key ahead link b) => ∃ b0 b1 b2 b3 b4, v = .func (.func 207) #[] #[ptr b0, ptr b1, ptr b2, ptr b3, ptr b4] ∧ Box L w b0 (u64 b) ∧ Box L w b1 (ptr e) ∧ Box L w b2 (u64 link) ∧ Box L w b3 (i64 key) ∧ Box L w b4 (u64 ahead)
  | some (.on key link) => ∃ b0 b1 b2, v = .func (.func 223) #[] #[ptr b0, ptr b1, ptr b2] ∧ Box L w b0 (ptr e) ∧ Box L w b1 (i64 key) ∧ Box L w b2 (u64 link)
  | some (.unlink key ahead link) => ∃ b0 b1 b2 b3, v = .func (.func 221) #[] #[ptr b0, ptr b1, ptr b2, ptr b3] ∧ Box L w b0 (ptr e) ∧ Box L w b1 (u64 link) ∧ Box L w b2 (i64 key) ∧ Box L w b3 (u64 ahead)
  | some (.cut key ahead link nx) => ∃ b0 b1 b2 b3 b4, v = .func (.func 234) #[] #[ptr b0, ptr b1, ptr b2, ptr b3, ptr b4] ∧ Box L w b0 (u64 ahead) ∧ Box L w b1 (ptr e) ∧ Box L w b2 (u64 nx) ∧ Box L w b3 (i64 key) ∧ Box L w b4 (u64 link)
theorem SRep.grow {e : Nat} {L L' : Lab} {w w' : World} {v : Value} (g : Grow L w L' w') : ∀ {k : Option S}, SRep e L w v k → SRep e L' w' v k
  | none, h => h
  | some .now, h => h
  | some (.live s), h => let ⟨b0, b1, e, k0, k1⟩ := h; ⟨b0, b1, e, k0.grow g, k1.grow g⟩
  | some (.head key), h => let ⟨b0, b1, e, k0, k1⟩ := h; ⟨b0, b1, e, k0.grow g, k1.grow g⟩
  | some (.visit key ahead link), h => let ⟨b0, b1, b2, b3, e, k0, k1, k2, k3⟩ := h; ⟨b0, b1, b2, b3, e, k0.grow g, k1.grow g, k2.grow g, k3.grow g⟩
  | some (.maker key ahead link id), h => let ⟨b0, b1, b2, b3, b4, e, k0, k1, k2, k3, k4⟩ := h; ⟨b0, b1, b2, b3, b4, e, k0.grow g, k1.grow g, k2.grow g, k3.grow g, k4.grow g⟩
  | some (.garbage key ahead link b), h => let ⟨b0, b1, b2, b3, b4, e, k0, k1, k2, k3, k4⟩ := h; ⟨b0, b1, b2, b3, b4, e, k0.grow g, k1.grow g, k2.grow g, k3.grow g, k4.grow g⟩
  | some (.on key link), h => let ⟨b0, b1, b2, e, k0, k1, k2⟩ := h; ⟨b0, b1, b2, e, k0.grow g, k1.grow g, k2.grow g⟩
  | some (.unlink key ahead link), h => let ⟨b0, b1, b2, b3, e, k0, k1, k2, k3⟩ := h; ⟨b0, b1, b2, b3, e, k0.grow g, k1.grow g, k2.grow g, k3.grow g⟩
  | some (.cut key ahead link nx), h => let ⟨b0, b1, b2, b3, b4, e, k0, k1, k2, k3, k4⟩ := h; ⟨b0, b1, b2, b3, b4, e, k0.grow g, k1.grow g, k2.grow g, k3.grow g, k4.grow g⟩
/-- A function has told the next step of sweeping. -/
def STells (A : Book) (σ : St) (w : World) (k : Option S) : Ending → World → Prop := fun e w' => ∃ v, e = .returned v ∧ Rep A σ w' ∧ Grow A.L w A.L w' ∧ SRep A.be A.L w' v k
theorem smaker_any {A : Book} {σ : St} {w : World} (hR : Rep A σ w) (key : Nat) (ahead : Nat) (link : Nat) (id : Nat) :
    Calls Tryz.prog 195 #[.pointer (some ⟨A.be, 0, none⟩), .int .i64 (key : Int), .int .u64 (ahead : Int), .int .u64 (link : Int), .int .i64 (id : Int)] w (STells A σ w (some (.maker key ahead link id))) := by
  have F := Lib.hid (allocs5 hR #[.pointer (some ⟨A.be, 0, none⟩)] 27 #[.int .i64 (key : Int)] 3 #[.int .u64 (ahead : Int)] 24 #[.int .u64 (link : Int)] 24 #[.int .i64 (id : Int)] 3)
  clear hR
  go_enter Tryz.func195, Tryz.ntmps195
  go_wp2
  go_ret
  obtain ⟨r1, r2, f0, f1, f2, f3, f4⟩ := F.out
  exact ⟨_, rfl, r1, r2, _, _, _, _, _, rfl, f0.box, f4.box, f1.box, f2.box, f3.box⟩
theorem sgarbage_any {A : Book} {σ : St} {w : World} (hR : Rep A σ w) (key : Nat) (ahead : Nat) (link : Nat) (b : Nat) :
    Calls Tryz.prog 196 #[.pointer (some ⟨A.be, 0, none⟩), .int .i64 (key : Int), .int .u64 (ahead : Int), .int .u64 (link : Int), .int .u64 (b : Int)] w (STells A σ w (some (.garbage key ahead link b))) := by
  have F := Lib.hid (allocs5 hR #[.pointer (some ⟨A.be, 0, none⟩)] 27 #[.int .i64 (key : Int)] 3 #[.int .u64 (ahead : Int)] 24 #[.int .u64 (link : Int)] 24 #[.int .u64 (b : Int)] 24)
  clear hR
  go_enter Tryz.func196, Tryz.ntmps196
  go_wp2
  go_ret
  obtain ⟨r1, r2, f0, f1, f2, f3, f4⟩ := F.out
  exact ⟨_, rfl, r1, r2, _, _, _, _, _, rfl, f4.box, f0.box, f3.box, f1.box, f2.box⟩
theorem son_any {A : Book} {σ : St} {w : World} (hR : Rep A σ w) (key : Nat) (link : Nat) :
    Calls Tryz.prog 206 #[.pointer (some ⟨A.be, 0, none⟩), .int .i64 (key : Int), .int .u64 (link : Int)] w (STells A σ w (some (.on key link))) := by
  have F := Lib.hid (allocs3 hR #[.pointer (some ⟨A.be, 0, none⟩)] 27 #[.int .i64 (key : Int)] 3 #[.int .u64 (link : Int)] 24)
  clear hR
  go_enter Tryz.func206, Tryz.ntmps206
  go_wp2
  go_ret
  obtain ⟨r1, r2, f0, f1, f2⟩ := F.out
  exact ⟨_, rfl, r1, r2, _, _, _, rfl, f0.box, f1.box, f2.box⟩
theorem sunlink_any {A : Book} {σ : St} {w : World} (hR : Rep A σ w) (key : Nat) (ahead : Nat) (link : Nat) :
    Calls Tryz.prog 205 #[.pointer (some ⟨A.be, 0, none⟩), .int .i64 (key : Int), .int .u64 (ahead : Int), .int .u64 (link : Int)] w (STells A σ w (some (.unlink key ahead link))) := by
  have F := Lib.hid (allocs4 hR #[.pointer (some ⟨A.be, 0, none⟩)] 27 #[.int .i64 (key : Int)] 3 #[.int .u64 (ahead : Int)] 24 #[.int .u64 (link : Int)] 24)
  clear hR
  go_enter Tryz.func205, Tryz.ntmps205
  go_wp2
  go_ret
  obtain ⟨r1, r2, f0, f1, f2, f3⟩ := F.out
  exact ⟨_, rfl, r1, r2, _, _, _, _, rfl, f0.box, f3.box, f1.box, f2.box⟩
theorem scut_any {A : Book} {σ : St} {w : World} (hR : Rep A σ w) (key : Nat) (ahead : Nat) (link : Nat) (nx : Nat) :
    Calls Tryz.prog 222 #[.pointer (some ⟨A.be, 0, none⟩), .int .i64 (key : Int), .int .u64 (ahead : Int), .int .u64 (link : Int), .int .u64 (nx : Int)] w (STells A σ w (some (.cut key ahead link nx))) := by
  have F := Lib.hid (allocs5 hR #[.pointer (some ⟨A.be, 0, none⟩)] 27 #[.int .i64 (key : Int)] 3 #[.int .u64 (ahead : Int)] 24 #[.int .u64 (link : Int)] 24 #[.int .u64 (nx : Int)] 24)
  clear hR
  go_enter Tryz.func222, Tryz.ntmps222
  go_wp2
  go_ret
  obtain ⟨r1, r2, f0, f1, f2, f3, f4⟩ := F.out
  exact ⟨_, rfl, r1, r2, _, _, _, _, _, rfl, f2.box, f0.box, f4.box, f1.box, f3.box⟩
theorem shead_any {A : Book} {σ : St} {w : World} (hR : Rep A σ w) (key : Nat) (hk : key ≤ 64) :
    Calls Tryz.prog 159 #[.pointer (some ⟨A.be, 0, none⟩), .int .i64 (key : Int)] w (STells A σ w (headS key)) := by
  have F := Lib.hid (allocs2 hR #[.pointer (some ⟨A.be, 0, none⟩)] 27 #[.int .i64 (key : Int)] 3)
  clear hR
  unfold headS
  by_cases h63 : 63 < key
  · have h1 : ((63 : Int) < (key : Int)) = True := by simp; omega
    have h2 : decide ((63 : Int) < (key : Int)) = true := by simp; omega
    rw [if_pos h63]
    go_enter Tryz.func159, Tryz.ntmps159
    go_wp2
    go_ret
    obtain ⟨r1, r2, f0, f1⟩ := F.out
    exact ⟨_, rfl, r1, r2, rfl⟩
  · have h1 : ((63 : Int) < (key : Int)) = False := by simp; omega
    have h2 : decide ((63 : Int) < (key : Int)) = false := by simp; omega
    rw [if_neg h63]
    go_enter Tryz.func159, Tryz.ntmps159
    go_wp2
    go_ret
    obtain ⟨r1, r2, f0, f1⟩ := F.out
    exact ⟨_, rfl, r1, r2, _, _, rfl, f0.box, f1.box⟩
theorem slive_any {A : Book} {σ : St} {w : World} (hR : Rep A σ w) (s : Nat) (hs : s ≤ 8) :
    Calls Tryz.prog 136 #[.pointer (some ⟨A.be, 0, none⟩), .int .i64 (s : Int)] w (STells A σ w (liveS s)) := by
  have F := Lib.hid (allocs2 hR #[.pointer (some ⟨A.be, 0, none⟩)] 27 #[.int .i64 (s : Int)] 3)
  have HH := Lib.hid (shead_any (F.out.1) 0 (by decide))
  clear hR
  unfold liveS
  by_cases h8 : s = 8
  · have h1 : ((s : Int) = 8) = True := by simp; omega
    have h2 : ((s : Int) == 8) = true := by simp; omega
    rw [if_pos h8]
    clear h8
    go_enter Tryz.func136, Tryz.ntmps136
    go_wp2_with (go_at_call 159; refine HH.out.mono ?_; rintro e w9 ⟨v, rfl, q1, q2, q3⟩; have HQ := Lib.hid (And.intro q1 (And.intro q2 q3)); clear q1 q2 q3)
    go_ret
    exact ⟨_, rfl, HQ.out.1, F.out.2.1.trans HQ.out.2.1, HQ.out.2.2⟩
  · have h1 : ((s : Int) = 8) = False := by simp; omega
    have h2 : ((s : Int) == 8) = false := by simp; omega
    rw [if_neg h8]
    clear h8
    go_enter Tryz.func136, Tryz.ntmps136
    go_wp2
    go_ret
    obtain ⟨r1, r2, f0, f1⟩ := F.out
    exact ⟨_, rfl, r1, r2, _, _, rfl, f0.box, f1.box⟩
theorem svisit_any {A : Book} {σ : St} {w : World} (hR : Rep A σ w) (key ahead link : Nat) (hk : key ≤ 63) :
    Calls Tryz.prog 179 #[.pointer (some ⟨A.be, 0, none⟩), .int .i64 (key : Int), .int .u64 (ahead : Int), .int .u64 (link : Int)] w (STells A σ w (visitS key ahead link)) := by
  have F := Lib.hid (allocs4 hR #[.pointer (some ⟨A.be, 0, none⟩)] 27 #[.int .i64 (key : Int)] 3 #[.int .u64 (ahead : Int)] 24 #[.int .u64 (link : Int)] 24)
  have HH := Lib.hid (shead_any (F.out.1) (key + 1) (by omega))
  have n1 : IntKind.i64.wrap ((key : Int) + 1) = ((key + 1 : Nat) : Int) := by rw [IntKind.wrap_i64]; omega
  clear hR
  unfold visitS
  by_cases h8 : link = 0
  · have h1 : ((link : Int) = 0) = True := by simp; omega
    have h2 : ((link : Int) == 0) = true := by simp; omega
    rw [if_pos h8]
    clear h8
    generalize ((key + 1 : Nat) : Int) = k1 at *
    go_enter Tryz.func179, Tryz.ntmps179
    go_wp2_with (go_at_call 159; refine HH.out.mono ?_; rintro e w9 ⟨v, rfl, q1, q2, q3⟩; have HQ := Lib.hid (And.intro q1 (And.intro q2 q3)); clear q1 q2 q3)
    go_ret
    exact ⟨_, rfl, HQ.out.1, F.out.2.1.trans HQ.out.2.1, HQ.out.2.2⟩
  · have h1 : ((link : Int) = 0) = False := by simp; omega
    have h2 : ((link : Int) == 0) = false := by simp; omega
    rw [if_neg h8]
    clear h8
    go_enter Tryz.func179, Tryz.ntmps179
    go_wp2
    go_ret
    obtain ⟨r1, r2, f0, f1, f2, f3⟩ := F.out
    exact ⟨_, rfl, r1, r2, _, _, _, _, rfl, f0.box, f3.box, f1.box, f2.box⟩
end Go.Proofs.YtbefcdjcefmicaaGreat.Em

namespace Go.Proofs.YtbefcdjcefmicaaGreat.Em
open Go.ChangeShapes Go.WideShapes Go.ChangeAt Go.RowKit En
set_option linter.unusedVariables false
set_option linter.unusedSimpArgs false
set_option maxRecDepth 100000
set_option maxHeartbeats 1600000

/-- What of the book sweeping turns. -/
structure SOnly (A A' : Book) : Prop where
  ex : ∃ L v c f m, A' = { A with L := L, vsweep := v, vcut := c, vfree := f, mp := m }
  mp : A'.mp = A.mp
theorem SOnly.refl (A : Book) : SOnly A A := ⟨⟨_, _, _, _, _, rfl⟩, rfl⟩
theorem SOnly.trans {A B C : Book} (h : SOnly A B) (k : SOnly B C) : SOnly A C := by
  obtain ⟨⟨L, v, c, f, m, rfl⟩, h2⟩ := h
  obtain ⟨⟨L', v', c', f', m', rfl⟩, k2⟩ := k
  exact ⟨⟨_, _, _, _, _, rfl⟩, k2.trans h2⟩
def cutPs (l : List (Nat × Nat)) : List Value := l.flatMap fun p => [u64 p.1, i64 p.2]
/-- The row of those that are cut. -/
def CRow (A : Book) (σ : St) (w : World) : Prop := σ.cut = [] ∨ ∃ a c, A.vcut.2 = .slice a σ.cut.length c ∧ FRow A.L w 2 A.vcut.2 (cutPs σ.cut)
/-- A step of sweeping has run. -/
def SRan (A : Book) (σ : St) (w : World) (r : St × Bool) : Ending → World → Prop := fun e w' => e = .returned (.bool r.2) ∧ ∃ A', SOnly A A' ∧ Rep A' r.1 w' ∧ Grow A.L w A'.L w' ∧ SRep A'.be A'.L w' (A'.sv r.1.sw) r.1.sw ∧ (CRow A σ w → CRow A' r.1 w')
theorem Rep.sweepPut {A : Book} {σ : St} {w : World} (h : Rep A σ w) (v : Value) (x : Option S) (hs : SRep A.be A.L w v x) :
    ∃ A', SOnly A A' ∧ A'.vcut = A.vcut ∧ Rep A' { σ with sw := x } (w.setCell ⟨A.be, 25, none⟩ v) ∧ Grow A.L w A'.L (w.setCell ⟨A.be, 25, none⟩ v) ∧ SRep A'.be A'.L (w.setCell ⟨A.be, 25, none⟩ v) (A'.sv x) x := by
  cases x with
  | none =>
    have e : v = .nilFunc := hs
    subst e
    obtain ⟨r, g⟩ := h.sweepNil
    exact ⟨A, SOnly.refl A, rfl, r, g, rfl⟩
  | some k =>
    obtain ⟨r, g⟩ := h.sweepSet v k
    exact ⟨{ A with vsweep := v }, ⟨⟨_, _, _, _, _, rfl⟩, rfl⟩, rfl, r, g, hs.grow g⟩
theorem CRow.keep {A A' : Book} {σ σ' : St} {w w' : World} (h : CRow A σ w) (e : A'.vcut = A.vcut) (ec : σ'.cut = σ.cut) (g : Grow A.L w A'.L w') : CRow A' σ' w' := by
  rcases h with h | ⟨a, c, h1, h2⟩
  · exact .inl (ec.trans h)
  · refine .inr ⟨a, c, ?_, ?_⟩
    · rw [e, ec]; exact h1
    · rw [e, ec]; exact h2.grow g
theorem SRep.form {e : Nat} {L : Lab} {w : World} {v : Value} : ∀ {k : S}, SRep e L w v (some k) → ∃ fv fb fc, v = .func (.func fv) fb fc
  | .now, h => ⟨_, _, _, h⟩
  | .live _, h => let ⟨_, _, e, _⟩ := h; ⟨_, _, _, e⟩
  | .head _, h => let ⟨_, _, e, _⟩ := h; ⟨_, _, _, e⟩
  | .visit _ _ _, h => let ⟨_, _, _, _, e, _⟩ := h; ⟨_, _, _, e⟩
  | .maker _ _ _ _, h => let ⟨_, _, _, _, _, e, _⟩ := h; ⟨_, _, _, e⟩
  | .garbage _ _ _ _, h => let ⟨_, _, _, _, _, e, _⟩ := h; ⟨_, _, _, e⟩
  | .on _ _, h => let ⟨_, _, _, e, _⟩ := h; ⟨_, _, _, e⟩
  | .unlink _ _ _, h => let ⟨_, _, _, _, e, _⟩ := h; ⟨_, _, _, e⟩
  | .cut _ _ _ _, h => let ⟨_, _, _, _, _, e, _⟩ := h; ⟨_, _, _, e⟩
theorem k_head {A : Book} {σ : St} {w : World} (hR : Rep A σ w) (key : Nat) (hk : key ≤ 63) (hcnt : σ.count < 4000000000000000000) (b0 : Nat) (b1 : Nat) (B0 : Box A.L w b0 (.pointer (some ⟨A.be, 0, none⟩))) (B1 : Box A.L w b1 (.int .i64 (key : Int))) :
    Calls Tryz.prog 178 #[.pointer (some ⟨b0, 0, none⟩), .pointer (some ⟨b1, 0, none⟩)] w (SRan A σ w (σ.sweepRun (.head key))) := by
  have c0 := B0.cell
  have c1 := B1.cell
  have e2 : w.cell? ⟨A.be, 2, none⟩ = some (.pointer (some ⟨A.ba, 0, none⟩)) := hR.eng 2 rfl
  have n1 : IntKind.i64.wrap (9 + (key : Int)) = 9 + (key : Int) := by rw [IntKind.wrap_i64]; omega
  have HL : Hid (∀ w', Rep A σ w' → Calls Tryz.prog 73 #[.pointer (some ⟨A.ba, 0, none⟩), .int .i64 (9 + (key : Int))] w' (Did A w' σ.tick (.int .u64 (σ.word (9 + key) : Int)))) := fun w' r => load_i r (9 + key) (9 + (key : Int)) (by omega) (by rw [r.nw]; omega) hcnt
  have HRd : Hid (Rep A σ w.drew) := hR.drew
  have HKK : Hid (∀ w', Rep A σ.tick w' → Grow A.L w A.L w' → w'.cell? ⟨b0, 0, none⟩ = some (.pointer (some ⟨A.be, 0, none⟩)) ∧ w'.cell? ⟨b1, 0, none⟩ = some (.int .i64 (key : Int)) ∧ w'.cell? ⟨A.be, 2, none⟩ = some (.pointer (some ⟨A.ba, 0, none⟩))) := fun w' r g => ⟨(B0.grow g).cell, (B1.grow g).cell, r.eng 2 rfl⟩
  have HKS : Hid (∀ w' x, Rep A σ.tick w' → Grow A.L w A.L w' → (w'.setCell ⟨A.be, 25, none⟩ x).cell? ⟨b0, 0, none⟩ = some (.pointer (some ⟨A.be, 0, none⟩)) ∧ (w'.setCell ⟨A.be, 25, none⟩ x).cell? ⟨b1, 0, none⟩ = some (.int .i64 (key : Int)) ∧ (w'.setCell ⟨A.be, 25, none⟩ x).cell? ⟨A.be, 2, none⟩ = some (.pointer (some ⟨A.ba, 0, none⟩))) := fun w' x r g => let ⟨r', g'⟩ := r.sweepSet x .now; ⟨(B0.grow (g.trans g')).cell, (B1.grow (g.trans g')).cell, r'.eng 2 rfl⟩
  have HM : Hid (∀ w', Rep A σ.tick w' → Calls Tryz.prog 179 #[.pointer (some ⟨A.be, 0, none⟩), .int .i64 (key : Int), .int .u64 0, .int .u64 (σ.word (9 + key) : Int)] w' (STells A σ.tick w' (visitS key 0 (σ.word (9 + key))))) := fun w' r => svisit_any r key 0 (σ.word (9 + key)) hk
  have HG : Hid (Grow A.L w A.L w.drew) := Grow.drew _ _
  clear hR hcnt B0 B1
  have HRES : σ.sweepRun (.head key) = ({ σ.tick with sw := visitS key 0 (σ.word (9 + key)) }, false) := rfl
  rw [HRES]
  generalize visitS key 0 (σ.word (9 + key)) = kk at *
  generalize (σ.word (9 + key) : Int) = hd at *
  cases kk with
  | none =>
    go_enter Tryz.func178, Tryz.ntmps178
    go_wp2_with fail
    go_region_held3 (fun w' => w'.cell? ⟨b0, 0, none⟩ = some (.pointer (some ⟨A.be, 0, none⟩)) ∧ w'.cell? ⟨b1, 0, none⟩ = some (.int .i64 (key : Int)) ∧ w'.cell? ⟨A.be, 2, none⟩ = some (.pointer (some ⟨A.ba, 0, none⟩)))
      (first | exact ⟨c0, c1, e2⟩ | assumption | go_keep | exact HKK.out _ (by assumption) (by assumption) | exact HKS.out _ _ (by assumption) (by assumption))
      (first | (go_at_call 73; refine (HL.out _ HRd.out).mono ?_; rintro e w1 ⟨rfl, q1, q2⟩; have q4 := HG.out.trans q2) | (go_at_call 179; refine (HM.out _ (by assumption)).mono ?_; rintro e w2 ⟨v, rfl, p1, p2, p3⟩; have e3 : v = .nilFunc := p3; subst e3; obtain ⟨vo, y25⟩ : ∃ vo, w2.cell? ⟨A.be, 25, none⟩ = some vo := ⟨_, p1.eng 25 (v := A.sv σ.tick.sw) rfl⟩; have z25 := p1.engF 25; have q5 := q4.trans p2; have HP := Lib.hid p3; clear p2 p3))
    go_wp2_with fail
    go_ret
    obtain ⟨A', a1, a2, a3, a4, a5⟩ := p1.sweepPut _ _ HP.out
    exact ⟨rfl, A', a1, a3, q5.trans a4, a5, fun hc => hc.keep a2 rfl (q5.trans a4)⟩
  | some kx =>
    go_enter Tryz.func178, Tryz.ntmps178
    go_wp2_with fail
    go_region_held3 (fun w' => w'.cell? ⟨b0, 0, none⟩ = some (.pointer (some ⟨A.be, 0, none⟩)) ∧ w'.cell? ⟨b1, 0, none⟩ = some (.int .i64 (key : Int)) ∧ w'.cell? ⟨A.be, 2, none⟩ = some (.pointer (some ⟨A.ba, 0, none⟩)))
      (first | exact ⟨c0, c1, e2⟩ | assumption | go_keep | exact HKK.out _ (by assumption) (by assumption) | exact HKS.out _ _ (by assumption) (by assumption))
      (first | (go_at_call 73; refine (HL.out _ HRd.out).mono ?_; rintro e w1 ⟨rfl, q1, q2⟩; have q4 := HG.out.trans q2) | (go_at_call 179; refine (HM.out _ (by assumption)).mono ?_; rintro e w2 ⟨v, rfl, p1, p2, p3⟩; obtain ⟨fv, fb, fc, e3⟩ := SRep.form p3; subst e3; obtain ⟨vo, y25⟩ : ∃ vo, w2.cell? ⟨A.be, 25, none⟩ = some vo := ⟨_, p1.eng 25 (v := A.sv σ.tick.sw) rfl⟩; have z25 := p1.engF 25; have q5 := q4.trans p2; have HP := Lib.hid p3; clear p2 p3))
    go_wp2_with fail
    go_ret
    obtain ⟨A', a1, a2, a3, a4, a5⟩ := p1.sweepPut _ _ HP.out
    exact ⟨rfl, A', a1, a3, q5.trans a4, a5, fun hc => hc.keep a2 rfl (q5.trans a4)⟩
theorem k_on {A : Book} {σ : St} {w : World} (hR : Rep A σ w) (key link : Nat) (hk : key ≤ 63) (hv : VL σ link) (hcnt : σ.count < 4000000000000000000) (b0 : Nat) (b1 : Nat) (b2 : Nat) (B0 : Box A.L w b0 (.pointer (some ⟨A.be, 0, none⟩))) (B1 : Box A.L w b1 (.int .i64 (key : Int))) (B2 : Box A.L w b2 (.int .u64 (link : Int))) :
    Calls Tryz.prog 223 #[.pointer (some ⟨b0, 0, none⟩), .pointer (some ⟨b1, 0, none⟩), .pointer (some ⟨b2, 0, none⟩)] w (SRan A σ w (σ.sweepRun (.on key link))) := by
  have c0 := B0.cell
  have c1 := B1.cell
  have c2 := B2.cell
  have e2 : w.cell? ⟨A.be, 2, none⟩ = some (.pointer (some ⟨A.ba, 0, none⟩)) := hR.eng 2 rfl
  have hsl := hR.sl
  have HS := Lib.hid (slot_at link 2 2 rfl hv.lo (by have := hv.hi; omega) hv.u (by omega))
  have HL : Hid (∀ w', Rep A σ w' → Calls Tryz.prog 73 #[.pointer (some ⟨A.ba, 0, none⟩), .int .i64 (((wslot link 2 : Nat) : Int))] w' (Did A w' σ.tick (.int .u64 (σ.word (wslot link 2) : Int)))) := fun w' r => load_i r (wslot link 2) (((wslot link 2 : Nat) : Int)) rfl (wslot_lt r hv.lo hv.hi (by omega)) hcnt
  have HRd : Hid (Rep A σ w.drew) := hR.drew
  have HKK : Hid (∀ w', Rep A σ.tick w' → Grow A.L w A.L w' → w'.cell? ⟨b0, 0, none⟩ = some (.pointer (some ⟨A.be, 0, none⟩)) ∧ w'.cell? ⟨b1, 0, none⟩ = some (.int .i64 (key : Int)) ∧ w'.cell? ⟨b2, 0, none⟩ = some (.int .u64 (link : Int)) ∧ w'.cell? ⟨A.be, 2, none⟩ = some (.pointer (some ⟨A.ba, 0, none⟩))) := fun w' r g => ⟨(B0.grow g).cell, (B1.grow g).cell, (B2.grow g).cell, r.eng 2 rfl⟩
  have HKS : Hid (∀ w' x, Rep A σ.tick w' → Grow A.L w A.L w' → (w'.setCell ⟨A.be, 25, none⟩ x).cell? ⟨b0, 0, none⟩ = some (.pointer (some ⟨A.be, 0, none⟩)) ∧ (w'.setCell ⟨A.be, 25, none⟩ x).cell? ⟨b1, 0, none⟩ = some (.int .i64 (key : Int)) ∧ (w'.setCell ⟨A.be, 25, none⟩ x).cell? ⟨b2, 0, none⟩ = some (.int .u64 (link : Int)) ∧ (w'.setCell ⟨A.be, 25, none⟩ x).cell? ⟨A.be, 2, none⟩ = some (.pointer (some ⟨A.ba, 0, none⟩))) := fun w' x r g => let ⟨r', g'⟩ := r.sweepSet x .now; ⟨(B0.grow (g.trans g')).cell, (B1.grow (g.trans g')).cell, (B2.grow (g.trans g')).cell, r'.eng 2 rfl⟩
  have HM : Hid (∀ w', Rep A σ.tick w' → Calls Tryz.prog 179 #[.pointer (some ⟨A.be, 0, none⟩), .int .i64 (key : Int), .int .u64 (link : Int), .int .u64 (σ.word (wslot link 2) : Int)] w' (STells A σ.tick w' (visitS key link (σ.word (wslot link 2))))) := fun w' r => svisit_any r key link (σ.word (wslot link 2)) hk
  have HG : Hid (Grow A.L w A.L w.drew) := Grow.drew _ _
  clear hR hcnt B0 B1 B2
  have HRES : σ.sweepRun (.on key link) = ({ σ.tick with sw := visitS key link (σ.word (wslot link 2)) }, false) := rfl
  rw [HRES]
  clear hv hsl
  generalize visitS key link (σ.word (wslot link 2)) = kk at *
  generalize (σ.word (wslot link 2) : Int) = hd at *
  generalize ((wslot link 2 : Nat) : Int) = ix at *
  cases kk with
  | none =>
    go_enter Tryz.func223, Tryz.ntmps223
    go_wp2_with fail
    go_region_held3 (fun w' => w'.cell? ⟨b0, 0, none⟩ = some (.pointer (some ⟨A.be, 0, none⟩)) ∧ w'.cell? ⟨b1, 0, none⟩ = some (.int .i64 (key : Int)) ∧ w'.cell? ⟨b2, 0, none⟩ = some (.int .u64 (link : Int)) ∧ w'.cell? ⟨A.be, 2, none⟩ = some (.pointer (some ⟨A.ba, 0, none⟩)))
      (first | exact ⟨c0, c1, c2, e2⟩ | assumption | go_keep | exact HKK.out _ (by assumption) (by assumption) | exact HKS.out _ _ (by assumption) (by assumption))
      (first | (go_at_call 73; refine (HL.out _ HRd.out).mono ?_; rintro e w1 ⟨rfl, q1, q2⟩; have q4 := HG.out.trans q2) | (go_at_call 62; refine (HS.out _).mono ?_; rintro e w9 ⟨rfl, rfl⟩) | (go_at_call 179; refine (HM.out _ (by assumption)).mono ?_; rintro e w2 ⟨v, rfl, p1, p2, p3⟩; have e3 : v = .nilFunc := p3; subst e3; obtain ⟨vo, y25⟩ : ∃ vo, w2.cell? ⟨A.be, 25, none⟩ = some vo := ⟨_, p1.eng 25 (v := A.sv σ.tick.sw) rfl⟩; have z25 := p1.engF 25; have q5 := q4.trans p2; have HP := Lib.hid p3; clear p2 p3))
    go_wp2_with fail
    go_ret
    obtain ⟨A', a1, a2, a3, a4, a5⟩ := p1.sweepPut _ _ HP.out
    exact ⟨rfl, A', a1, a3, q5.trans a4, a5, fun hc => hc.keep a2 rfl (q5.trans a4)⟩
  | some kx =>
    go_enter Tryz.func223, Tryz.ntmps223
    go_wp2_with fail
    go_region_held3 (fun w' => w'.cell? ⟨b0, 0, none⟩ = some (.pointer (some ⟨A.be, 0, none⟩)) ∧ w'.cell? ⟨b1, 0, none⟩ = some (.int .i64 (key : Int)) ∧ w'.cell? ⟨b2, 0, none⟩ = some (.int .u64 (link : Int)) ∧ w'.cell? ⟨A.be, 2, none⟩ = some (.pointer (some ⟨A.ba, 0, none⟩)))
      (first | exact ⟨c0, c1, c2, e2⟩ | assumption | go_keep | exact HKK.out _ (by assumption) (by assumption) | exact HKS.out _ _ (by assumption) (by assumption))
      (first | (go_at_call 73; refine (HL.out _ HRd.out).mono ?_; rintro e w1 ⟨rfl, q1, q2⟩; have q4 := HG.out.trans q2) | (go_at_call 62; refine (HS.out _).mono ?_; rintro e w9 ⟨rfl, rfl⟩) | (go_at_call 179; refine (HM.out _ (by assumption)).mono ?_; rintro e w2 ⟨v, rfl, p1, p2, p3⟩; obtain ⟨fv, fb, fc, e3⟩ := SRep.form p3; subst e3; obtain ⟨vo, y25⟩ : ∃ vo, w2.cell? ⟨A.be, 25, none⟩ = some vo := ⟨_, p1.eng 25 (v := A.sv σ.tick.sw) rfl⟩; have z25 := p1.engF 25; have q5 := q4.trans p2; have HP := Lib.hid p3; clear p2 p3))
    go_wp2_with fail
    go_ret
    obtain ⟨A', a1, a2, a3, a4, a5⟩ := p1.sweepPut _ _ HP.out
    exact ⟨rfl, A', a1, a3, q5.trans a4, a5, fun hc => hc.keep a2 rfl (q5.trans a4)⟩
theorem k_unlink {A : Book} {σ : St} {w : World} (hR : Rep A σ w) (key ahead link : Nat) (hv : VL σ link) (hcnt : σ.count < 4000000000000000000) (b0 : Nat) (b1 : Nat) (b2 : Nat) (b3 : Nat) (B0 : Box A.L w b0 (.pointer (some ⟨A.be, 0, none⟩))) (B1 : Box A.L w b1 (.int .u64 (link : Int))) (B2 : Box A.L w b2 (.int .i64 (key : Int))) (B3 : Box A.L w b3 (.int .u64 (ahead : Int))) :
    Calls Tryz.prog 221 #[.pointer (some ⟨b0, 0, none⟩), .pointer (some ⟨b1, 0, none⟩), .pointer (some ⟨b2, 0, none⟩), .pointer (some ⟨b3, 0, none⟩)] w (SRan A σ w (σ.sweepRun (.unlink key ahead link))) := by
  have c0 := B0.cell
  have c1 := B1.cell
  have c2 := B2.cell
  have c3 := B3.cell
  have e2 : w.cell? ⟨A.be, 2, none⟩ = some (.pointer (some ⟨A.ba, 0, none⟩)) := hR.eng 2 rfl
  have hsl := hR.sl
  have HS := Lib.hid (slot_at link 2 2 rfl hv.lo (by have := hv.hi; omega) hv.u (by omega))
  have HL : Hid (∀ w', Rep A σ w' → Calls Tryz.prog 73 #[.pointer (some ⟨A.ba, 0, none⟩), .int .i64 (((wslot link 2 : Nat) : Int))] w' (Did A w' σ.tick (.int .u64 (σ.word (wslot link 2) : Int)))) := fun w' r => load_i r (wslot link 2) (((wslot link 2 : Nat) : Int)) rfl (wslot_lt r hv.lo hv.hi (by omega)) hcnt
  have HRd : Hid (Rep A σ w.drew) := hR.drew
  have HKK : Hid (∀ w', Rep A σ.tick w' → Grow A.L w A.L w' → w'.cell? ⟨b0, 0, none⟩ = some (.pointer (some ⟨A.be, 0, none⟩)) ∧ w'.cell? ⟨b1, 0, none⟩ = some (.int .u64 (link : Int)) ∧ w'.cell? ⟨b2, 0, none⟩ = some (.int .i64 (key : Int)) ∧ w'.cell? ⟨b3, 0, none⟩ = some (.int .u64 (ahead : Int)) ∧ w'.cell? ⟨A.be, 2, none⟩ = some (.pointer (some ⟨A.ba, 0, none⟩))) := fun w' r g => ⟨(B0.grow g).cell, (B1.grow g).cell, (B2.grow g).cell, (B3.grow g).cell, r.eng 2 rfl⟩
  have HKS : Hid (∀ w' x, Rep A σ.tick w' → Grow A.L w A.L w' → (w'.setCell ⟨A.be, 25, none⟩ x).cell? ⟨b0, 0, none⟩ = some (.pointer (some ⟨A.be, 0, none⟩)) ∧ (w'.setCell ⟨A.be, 25, none⟩ x).cell? ⟨b1, 0, none⟩ = some (.int .u64 (link : Int)) ∧ (w'.setCell ⟨A.be, 25, none⟩ x).cell? ⟨b2, 0, none⟩ = some (.int .i64 (key : Int)) ∧ (w'.setCell ⟨A.be, 25, none⟩ x).cell? ⟨b3, 0, none⟩ = some (.int .u64 (ahead : Int)) ∧ (w'.setCell ⟨A.be, 25, none⟩ x).cell? ⟨A.be, 2, none⟩ = some (.pointer (some ⟨A.ba, 0, none⟩))) := fun w' x r g => let ⟨r', g'⟩ := r.sweepSet x .now; ⟨(B0.grow (g.trans g')).cell, (B1.grow (g.trans g')).cell, (B2.grow (g.trans g')).cell, (B3.grow (g.trans g')).cell, r'.eng 2 rfl⟩
  have HM : Hid (∀ w', Rep A σ.tick w' → Calls Tryz.prog 222 #[.pointer (some ⟨A.be, 0, none⟩), .int .i64 (key : Int), .int .u64 (ahead : Int), .int .u64 (link : Int), .int .u64 (σ.word (wslot link 2) : Int)] w' (STells A σ.tick w' (some (.cut key ahead link (σ.word (wslot link 2)))))) := fun w' r => scut_any r key ahead link (σ.word (wslot link 2))
  have HG : Hid (Grow A.L w A.L w.drew) := Grow.drew _ _
  clear hR hcnt B0 B1 B2 B3
  have HRES : σ.sweepRun (.unlink key ahead link) = ({ σ.tick with sw := some (.cut key ahead link (σ.word (wslot link 2))) }, true) := rfl
  rw [HRES]
  clear hv hsl
  generalize hkk : S.cut key ahead link (σ.word (wslot link 2)) = kk at *
  clear hkk
  generalize (σ.word (wslot link 2) : Int) = hd at *
  generalize ((wslot link 2 : Nat) : Int) = ix at *
  go_enter Tryz.func221, Tryz.ntmps221
  go_wp2_with fail
  go_region_held3 (fun w' => w'.cell? ⟨b0, 0, none⟩ = some (.pointer (some ⟨A.be, 0, none⟩)) ∧ w'.cell? ⟨b1, 0, none⟩ = some (.int .u64 (link : Int)) ∧ w'.cell? ⟨b2, 0, none⟩ = some (.int .i64 (key : Int)) ∧ w'.cell? ⟨b3, 0, none⟩ = some (.int .u64 (ahead : Int)) ∧ w'.cell? ⟨A.be, 2, none⟩ = some (.pointer (some ⟨A.ba, 0, none⟩)))
    (first | exact ⟨c0, c1, c2, c3, e2⟩ | assumption | go_keep | exact HKK.out _ (by assumption) (by assumption))
    (first | (go_at_call 62; refine (HS.out _).mono ?_; rintro e w9 ⟨rfl, rfl⟩) | (go_at_call 73; refine (HL.out _ HRd.out).mono ?_; rintro e w1 ⟨rfl, q1, q2⟩; have q4 := HG.out.trans q2))
  obtain ⟨d0, d1, d2, d3, d9⟩ := HKK.out _ q1 q4
  have HQ1 := Lib.hid q1.drew
  have HG1 := Lib.hid (q4.trans (Grow.drew _ _))
  go_wp2_with fail
  go_region_held3 (fun w' => w'.cell? ⟨b0, 0, none⟩ = some (.pointer (some ⟨A.be, 0, none⟩)) ∧ w'.cell? ⟨b1, 0, none⟩ = some (.int .u64 (link : Int)) ∧ w'.cell? ⟨b2, 0, none⟩ = some (.int .i64 (key : Int)) ∧ w'.cell? ⟨b3, 0, none⟩ = some (.int .u64 (ahead : Int)) ∧ w'.cell? ⟨A.be, 2, none⟩ = some (.pointer (some ⟨A.ba, 0, none⟩)))
    (first | exact ⟨d0, d1, d2, d3, d9⟩ | assumption | go_keep | exact HKK.out _ (by assumption) (by assumption) | exact HKS.out _ _ (by assumption) (by assumption))
    (first | (go_at_call 222; refine (HM.out _ HQ1.out).mono ?_; rintro e w2 ⟨v, rfl, p1, p2, p3⟩; obtain ⟨fv, fb, fc, e3⟩ := SRep.form p3; subst e3; obtain ⟨vo, y25⟩ : ∃ vo, w2.cell? ⟨A.be, 25, none⟩ = some vo := ⟨_, p1.eng 25 (v := A.sv σ.tick.sw) rfl⟩; have z25 := p1.engF 25; have q5 := HG1.out.trans p2; have HP := Lib.hid p3; clear p2 p3))
  go_wp2_with fail
  go_ret
  obtain ⟨A', a1, a2, a3, a4, a5⟩ := p1.sweepPut _ _ HP.out
  exact ⟨rfl, A', a1, a3, q5.trans a4, a5, fun hc => hc.keep a2 rfl (q5.trans a4)⟩
end Go.Proofs.YtbefcdjcefmicaaGreat.Em

namespace Go.Proofs.YtbefcdjcefmicaaGreat.Em
open Go.ChangeShapes Go.WideShapes Go.ChangeAt Go.RowKit En
set_option linter.unusedVariables false
set_option linter.unusedSimpArgs false
set_option maxRecDepth 100000
set_option maxHeartbeats 1600000

theorem garb_any (b x low : Nat) (hx : x < 18446744073709551616) (w : World) : Calls Tryz.prog 208 #[.int .u64 (b : Int), .int .u64 (x : Int), .int .u64 (low : Int)] w fun e w' => e = .returned (.bool (garbage x low)) ∧ Below w.heap.size w w' := by
  have HR := Lib.hid (rd_any x hx)
  unfold garbage
  generalize (rd x).1 = k at *
  generalize (rd x).2 = n at *
  have hk1 : ((k : Int) = 1) = (k = 1) := by simp; omega
  by_cases h1 : k = 1
  · have f1 : ((k : Int) = 1) = True := by simp; omega
    have f2 : ((k : Int) == 1) = true := by simp; omega
    have f3 : (k == 1) = true := by simp; omega
    by_cases h2 : 1 ≤ n
    · have g1 : ((1 : Int) ≤ (n : Int)) = True := by simp; omega
      have g2 : decide ((1 : Int) ≤ (n : Int)) = true := by simp; omega
      have g3 : decide (1 ≤ n) = true := by simp; omega
      by_cases h3 : n ≤ low
      · have k1 : ((n : Int) ≤ (low : Int)) = True := by simp; omega
        have k2 : decide ((n : Int) ≤ (low : Int)) = true := by simp; omega
        have k3 : decide (n ≤ low) = true := by simp; omega
        rw [f3, g3, k3]
        clear h1 h2 h3 hk1 hx
        go_enter Tryz.func208, Tryz.ntmps208
        go_wp2_with (go_at_call 93; refine (HR.out _).mono ?_; rintro e w1 ⟨rfl, hb⟩; have HB := Lib.hid hb; clear hb)
        go_ret
        exact ⟨rfl, HB.out.alloc HB.out.size _⟩
      · have k1 : ((n : Int) ≤ (low : Int)) = False := by simp; omega
        have k2 : decide ((n : Int) ≤ (low : Int)) = false := by simp; omega
        have k3 : decide (n ≤ low) = false := by simp; omega
        rw [f3, g3, k3]
        clear h1 h2 h3 hk1 hx
        go_enter Tryz.func208, Tryz.ntmps208
        go_wp2_with (go_at_call 93; refine (HR.out _).mono ?_; rintro e w1 ⟨rfl, hb⟩; have HB := Lib.hid hb; clear hb)
        go_ret
        exact ⟨rfl, HB.out.alloc HB.out.size _⟩
    · have g1 : ((1 : Int) ≤ (n : Int)) = False := by simp; omega
      have g2 : decide ((1 : Int) ≤ (n : Int)) = false := by simp; omega
      have g3 : decide (1 ≤ n) = false := by simp; omega
      rw [f3, g3]
      clear h1 h2 hk1 hx
      go_enter Tryz.func208, Tryz.ntmps208
      go_wp2_with (go_at_call 93; refine (HR.out _).mono ?_; rintro e w1 ⟨rfl, hb⟩; have HB := Lib.hid hb; clear hb)
      go_ret
      exact ⟨rfl, HB.out.alloc HB.out.size _⟩
  · have f1 : ((k : Int) = 1) = False := by simp; omega
    have f2 : ((k : Int) == 1) = false := by simp; omega
    have f3 : (k == 1) = false := by simp; omega
    rw [f3]
    clear h1 hk1 hx
    go_enter Tryz.func208, Tryz.ntmps208
    go_wp2_with (go_at_call 93; refine (HR.out _).mono ?_; rintro e w1 ⟨rfl, hb⟩; have HB := Lib.hid hb; clear hb)
    go_ret
    exact ⟨rfl, HB.out.alloc HB.out.size _⟩
end Go.Proofs.YtbefcdjcefmicaaGreat.Em

namespace Go.Proofs.YtbefcdjcefmicaaGreat.Em
open Go.ChangeShapes Go.WideShapes Go.ChangeAt Go.RowKit En
set_option linter.unusedVariables false
set_option linter.unusedSimpArgs false
set_option maxRecDepth 100000
set_option maxHeartbeats 1600000

theorem infoLimbo : (Tryz.prog.info? 230).map (fun i => (i.zero, i.size, i.bytes)) = some (some (.agg #[.int .u64 0, .int .i64 0]), 2, 16) := by kernel_rfl
theorem cell_alloc_keep' {w : World} {o : Obj} {a : Addr} {v : Value} (h : w.cell? a = some v) : (w.alloc o).cell? a = some v := by
  rw [World.cell?_alloc_some _ _ _ (by rw [h]; rfl)]; exact h
theorem cell_alloc_lt {w : World} (o : Obj) (a : Addr) (h : a.block < w.heap.size) : (w.alloc o).cell? a = w.cell? a := by
  simp only [World.cell?]
  rw [heap_alloc_old _ _ h]
/-- The first one that is cut is put into a row of its own. -/
theorem wp_cut1 {o : Oper} {a : Act} {K : Act → World → Prop} {Q : Exit → Act → World → Prop} (w W : World) (s x : Operand)
    (ho : o.op = .call { callee := .builtin .append, args := #[s, x], argTypes := #[109, 109] })
    (hs : a.eval s = .slice none 0 0) (t0 t1 : Int) (hW : W = w.alloc (.cells #[.int .u64 t0, .int .i64 t1] 230)) (hx : a.eval x = .slice (some ⟨w.heap.size, 0, none⟩) 1 1)
    (h : ∀ av' cap' w', w'.ownsRow w.heap.size 230 2 (.slice av' 1 cap') 1 [.int .u64 t0, .int .i64 t1] → Below w.heap.size w w' → K (a.put o.dst (.slice av' 1 cap')) w') :
    o.wp Tryz.prog a W K Q := by
  subst hW
  obtain ⟨ii, hii, hz0, hz1, hz2⟩ := info_parts infoLimbo
  refine Ow.wp_append_to _ s x 109 ho w.heap.size 230 ii _ 2 16 Tryz.underlying109 hii hz0 hz1 hz2 rfl (by decide) (.slice none 0 0) 0 [] hs (World.ownsRow_nil _ _ _ _) ⟨w.heap.size, 0, none⟩ 1 1 (by omega) [.int .u64 t0, .int .i64 t1] hx rfl (fun j u hu => Ow.new_row w [.int .u64 t0, .int .i64 t1] _ _ rfl j u hu) (by intro u hu; simp at hu; rcases hu with rfl | rfl <;> rfl) (by unfold maxLen; omega) (by omega) (by simp [World.drew]) ?_
  intro v' w' q1 q2 q3
  obtain ⟨av', cap', rfl, _⟩ := Ow.own_form q1
  rw [List.nil_append, Nat.zero_add] at q1
  have hb : Below w.heap.size w (w.alloc (.cells #[.int .u64 t0, .int .i64 t1] 230)) := (Below.refl _ w).alloc (Nat.le_refl _) _
  exact h av' cap' w' q1 (hb.grown q2 (by simp [World.drew]) (fun g hg => by cases hg))
set_option maxHeartbeats 16000000 in
theorem k_cut {A : Book} {σ : St} {w : World} (hR : Rep A σ w) (key ahead link nx : Nat) (hk : key ≤ 63) (hcut : σ.cut = []) (hcuts : σ.cuts = 0) (hah : ahead = 0) (hok : σ.word (9 + key) = link) (hcnt : σ.count < 4000000000000000000) (b0 b1 b2 b3 b4 : Nat) (B0 : Box A.L w b0 (.int .u64 (ahead : Int))) (B1 : Box A.L w b1 (.pointer (some ⟨A.be, 0, none⟩))) (B2 : Box A.L w b2 (.int .u64 (nx : Int))) (B3 : Box A.L w b3 (.int .i64 (key : Int))) (B4 : Box A.L w b4 (.int .u64 (link : Int))) :
    Calls Tryz.prog 234 #[.pointer (some ⟨b0, 0, none⟩), .pointer (some ⟨b1, 0, none⟩), .pointer (some ⟨b2, 0, none⟩), .pointer (some ⟨b3, 0, none⟩), .pointer (some ⟨b4, 0, none⟩)] w (SRan A σ w (σ.sweepRun (.cut key ahead link nx))) := by
  have c0 := B0.cell
  have c1 := B1.cell
  have c2 := B2.cell
  have c3 := B3.cell
  have c4 := B4.cell
  have e2 : w.cell? ⟨A.be, 2, none⟩ = some (.pointer (some ⟨A.ba, 0, none⟩)) := hR.eng 2 rfl
  have hsl := hR.sl
  have n1 : IntKind.i64.wrap (9 + (key : Int)) = 9 + (key : Int) := by rw [IntKind.wrap_i64]; omega
  have HRd : Hid (Rep A σ w.drew) := hR.drew
  have HG : Hid (Grow A.L w A.L w.drew) := Grow.drew _ _
  have HKK : Hid (∀ σ' w', Rep A σ' w' → Grow A.L w A.L w' → w'.cell? ⟨b0, 0, none⟩ = some (.int .u64 (ahead : Int)) ∧ w'.cell? ⟨b1, 0, none⟩ = some (.pointer (some ⟨A.be, 0, none⟩)) ∧ w'.cell? ⟨b2, 0, none⟩ = some (.int .u64 (nx : Int)) ∧ w'.cell? ⟨b3, 0, none⟩ = some (.int .i64 (key : Int)) ∧ w'.cell? ⟨b4, 0, none⟩ = some (.int .u64 (link : Int)) ∧ w'.cell? ⟨A.be, 2, none⟩ = some (.pointer (some ⟨A.ba, 0, none⟩))) := fun σ' w' r g => ⟨(B0.grow g).cell, (B1.grow g).cell, (B2.grow g).cell, (B3.grow g).cell, (B4.grow g).cell, r.eng 2 rfl⟩
  have HKS : Hid (∀ σ' w' x, Rep A σ' w' → Grow A.L w A.L w' → (w'.setCell ⟨A.be, 25, none⟩ x).cell? ⟨b0, 0, none⟩ = some (.int .u64 (ahead : Int)) ∧ (w'.setCell ⟨A.be, 25, none⟩ x).cell? ⟨b1, 0, none⟩ = some (.pointer (some ⟨A.be, 0, none⟩)) ∧ (w'.setCell ⟨A.be, 25, none⟩ x).cell? ⟨b2, 0, none⟩ = some (.int .u64 (nx : Int)) ∧ (w'.setCell ⟨A.be, 25, none⟩ x).cell? ⟨b3, 0, none⟩ = some (.int .i64 (key : Int)) ∧ (w'.setCell ⟨A.be, 25, none⟩ x).cell? ⟨b4, 0, none⟩ = some (.int .u64 (link : Int)) ∧ (w'.setCell ⟨A.be, 25, none⟩ x).cell? ⟨A.be, 2, none⟩ = some (.pointer (some ⟨A.ba, 0, none⟩))) := fun σ' w' x r g => let ⟨r', g'⟩ := r.sweepSet x .now; ⟨(B0.grow (g.trans g')).cell, (B1.grow (g.trans g')).cell, (B2.grow (g.trans g')).cell, (B3.grow (g.trans g')).cell, (B4.grow (g.trans g')).cell, r'.eng 2 rfl⟩
  have HK3 : Hid (∀ w', Grow A.L w A.L w' → w'.cell? ⟨b0, 0, none⟩ = some (.int .u64 (ahead : Int)) ∧ w'.cell? ⟨b1, 0, none⟩ = some (.pointer (some ⟨A.be, 0, none⟩)) ∧ w'.cell? ⟨b2, 0, none⟩ = some (.int .u64 (nx : Int)) ∧ w'.cell? ⟨b3, 0, none⟩ = some (.int .i64 (key : Int)) ∧ w'.cell? ⟨b4, 0, none⟩ = some (.int .u64 (link : Int))) := fun w' g => ⟨(B0.grow g).cell, (B1.grow g).cell, (B2.grow g).cell, (B3.grow g).cell, (B4.grow g).cell⟩
  have HC27 : Hid (∀ i v w', Rep A (σ.put i v) w' → w'.cell? ⟨A.be, 27, none⟩ = some (.slice none 0 0)) := fun i v w' r => by
    have h : w'.cell? ⟨A.be, 27, none⟩ = some (A.cv σ.cuts σ.cut) := r.eng 27 rfl
    rw [hcuts] at h
    exact h
  have f1 : ((ahead : Int) = 0) = True := by simp; omega
  have f2 : ((ahead : Int) == 0) = true := by simp; omega
  have f3 : ((ahead : Int) != 0) = false := by simp; omega
  have HCA : Hid (∀ w', Rep A σ w' → Calls Tryz.prog 75 #[.pointer (some ⟨A.ba, 0, none⟩), .int .i64 (9 + (key : Int)), .int .u64 (link : Int), .int .u64 (nx : Int)] w' (Did A w' (σ.put (9 + key) nx) (.bool true))) := fun w' r => by
    have hh := cas_any r (9 + key) link nx (by rw [r.nw]; omega) hcnt
    rw [show ((9 + key : Nat) : Int) = 9 + (key : Int) by omega, show σ.cas (9 + key) link nx = σ.put (9 + key) nx by unfold St.cas; rw [if_pos hok], show (σ.word (9 + key) == link) = true by rw [hok]; simp] at hh
    exact hh
  have HRES : σ.sweepRun (.cut key ahead link nx) = ({ σ.put (9 + key) nx with cut := [(link, σ.seq)], cuts := 1, sw := visitS key ahead nx }, true) := by simp only [St.sweepRun]; rw [if_neg (fun h => h hah), if_pos hok, hcut, hcuts]; rfl
  rw [HRES]
  have HC28 : Hid (∀ w', Rep A (σ.put (9 + key) nx) w' → w'.cell? ⟨A.be, 27, none⟩ = some (.slice none 0 0)) := fun w' r => HC27.out _ _ _ r
  have HC22 : Hid (∀ w', Rep A (σ.put (9 + key) nx) w' → w'.cell? ⟨A.be, 22, none⟩ = some (.int .i64 (σ.seq : Int))) := fun w' r => r.eng 22 rfl
  clear hR hcnt hok B0 B1 B2 B3 B4 hsl HRES HC27 hcut hcuts hah
  generalize σ.put (9 + key) nx = σp at *
  go_enter Tryz.func234, Tryz.ntmps234
  go_wp2_with fail
  go_region_held3 (fun w' => w'.cell? ⟨b0, 0, none⟩ = some (.int .u64 (ahead : Int)) ∧ w'.cell? ⟨b1, 0, none⟩ = some (.pointer (some ⟨A.be, 0, none⟩)) ∧ w'.cell? ⟨b2, 0, none⟩ = some (.int .u64 (nx : Int)) ∧ w'.cell? ⟨b3, 0, none⟩ = some (.int .i64 (key : Int)) ∧ w'.cell? ⟨b4, 0, none⟩ = some (.int .u64 (link : Int)) ∧ w'.cell? ⟨A.be, 2, none⟩ = some (.pointer (some ⟨A.ba, 0, none⟩)))
    (first | exact ⟨c0, c1, c2, c3, c4, e2⟩ | assumption | go_keep | exact HKK.out _ _ (by assumption) (by assumption))
    (first | (go_at_call 75; refine (HCA.out _ HRd.out).mono ?_; rintro e w1 ⟨rfl, q1, q2⟩; have q4 := HG.out.trans q2; clear q2))
  obtain ⟨d0, d1, d2, d3, d4, d5⟩ := HKK.out _ _ (q1) (q4)
  have y27 : w1.cell? ⟨A.be, 27, none⟩ = some (.slice none 0 0) := HC28.out _ (q1)
  have z27 := (q1).engF 27
  have y22 : w1.cell? ⟨A.be, 22, none⟩ = some (.int .i64 (σ.seq : Int)) := HC22.out _ (q1)
  have HQ := Lib.hid (And.intro (q1) (q4))
  clear q1 q4
  go_wp2_with fail
  refine wp_region_held_drew (S := fun w' => w'.cell? ⟨b1, 0, none⟩ = some (.pointer (some ⟨A.be, 0, none⟩)) ∧ w'.cell? ⟨b4, 0, none⟩ = some (.int .u64 (link : Int)) ∧ w'.cell? ⟨A.be, 22, none⟩ = some (.int .i64 (σ.seq : Int))) (by kernel_rfl) ?_ (fun hHeld => ?_)
  · (try dsimp only); exact ⟨d1, d4, y22⟩
  have HQD := Lib.hid (And.intro HQ.out.1.drew (HQ.out.2.trans (Grow.drew A.L w1)))
  have y27d : w1.drew.cell? ⟨A.be, 27, none⟩ = some (.slice none 0 0) := y27
  have z27d : w1.drew.frozen? ⟨A.be, 27, none⟩ = false := z27
  clear d0 d1 d2 d3 d4 d5 y22 y27 z27 HQ
  generalize w1.drew = vd at *
  have y27a : ∀ ob, (vd.alloc ob).cell? ⟨A.be, 27, none⟩ = some (.slice none 0 0) := fun ob => cell_alloc_keep' y27d
  refine wpAnyH_take (i := 0) (v := ?_) rfl (by kernel_rfl) (by kernel_rfl) (by kernel_rfl) (fun _ _ _ h => h) (Or.inl ⟨by rfl, ?_⟩) hHeld ?_
  rotate_left
  · (intro w hSw; (try dsimp only at hSw); go_simp; (try with_reducible rfl))
  (try simp only [List.getElem_toArray, List.getElem_cons_succ, List.getElem_cons_zero, Act.put, List.setIfInBounds_toArray, List.set_cons_zero, List.set_cons_succ])
  refine wpAnyH_take (i := 1) (v := ?_) rfl (by kernel_rfl) (by kernel_rfl) (by kernel_rfl) (fun _ _ _ h => h) (Or.inl ⟨by rfl, ?_⟩) hHeld ?_
  rotate_left
  · (intro w hSw; (try dsimp only at hSw); go_simp; (try with_reducible rfl))
  (try simp only [List.getElem_toArray, List.getElem_cons_succ, List.getElem_cons_zero, Act.put, List.setIfInBounds_toArray, List.set_cons_zero, List.set_cons_succ])
  refine wpAnyH_take (i := 2) (v := ?_) rfl (by kernel_rfl) (by kernel_rfl) (by kernel_rfl) (fun _ _ _ h => h) (Or.inl ⟨by rfl, ?_⟩) hHeld ?_
  rotate_left
  · (intro w hSw; (try dsimp only at hSw); go_simp; (try with_reducible rfl))
  (try simp only [List.getElem_toArray, List.getElem_cons_succ, List.getElem_cons_zero, Act.put, List.setIfInBounds_toArray, List.set_cons_zero, List.set_cons_succ])
  refine wpAnyH_take (i := 3) (v := ?_) rfl (by kernel_rfl) (by kernel_rfl) (by kernel_rfl) (fun _ _ _ h => h) (Or.inl ⟨by rfl, ?_⟩) hHeld ?_
  rotate_left
  · (intro w hSw; (try dsimp only at hSw); go_simp; (try with_reducible rfl))
  (try simp only [List.getElem_toArray, List.getElem_cons_succ, List.getElem_cons_zero, Act.put, List.setIfInBounds_toArray, List.set_cons_zero, List.set_cons_succ])
  refine wpAnyH_take (i := 4) (v := ?_) rfl (by kernel_rfl) (by kernel_rfl) (by kernel_rfl) (fun _ _ _ h => h) (Or.inl ⟨by rfl, ?_⟩) hHeld ?_
  rotate_left
  · (intro w hSw; (try dsimp only at hSw); go_simp; (try with_reducible rfl))
  (try simp only [List.getElem_toArray, List.getElem_cons_succ, List.getElem_cons_zero, Act.put, List.setIfInBounds_toArray, List.set_cons_zero, List.set_cons_succ])
  refine wpAnyH_take (i := 6) (v := ?_) rfl (by kernel_rfl) (by kernel_rfl) (by kernel_rfl) (fun _ _ _ h => h) (Or.inl ⟨by rfl, ?_⟩) hHeld ?_
  rotate_left
  · (intro w hSw; (try dsimp only at hSw); go_simp; (try with_reducible rfl))
  (try simp only [List.getElem_toArray, List.getElem_cons_succ, List.getElem_cons_zero, Act.put, List.setIfInBounds_toArray, List.set_cons_zero, List.set_cons_succ])
  refine wpAnyH_take (i := 7) (v := ?_) rfl (by kernel_rfl) (by kernel_rfl) (by kernel_rfl) (fun _ _ _ h => h) (Or.inl ⟨by rfl, ?_⟩) hHeld ?_
  rotate_left
  · (intro w hSw; (try dsimp only at hSw); go_simp; (try with_reducible rfl))
  (try simp only [List.getElem_toArray, List.getElem_cons_succ, List.getElem_cons_zero, Act.put, List.setIfInBounds_toArray, List.set_cons_zero, List.set_cons_succ])
  refine wpAnyH_take (i := 8) (v := ?_) rfl (by kernel_rfl) (by kernel_rfl) (by kernel_rfl) (fun _ _ _ h => h) (Or.inl ⟨by rfl, ?_⟩) hHeld ?_
  rotate_left
  · (intro w hSw; (try dsimp only at hSw); go_simp; (try with_reducible rfl))
  (try simp only [List.getElem_toArray, List.getElem_cons_succ, List.getElem_cons_zero, Act.put, List.setIfInBounds_toArray, List.set_cons_zero, List.set_cons_succ])
  refine wpAnyH_take (i := 9) (v := ?_) rfl (by kernel_rfl) (by kernel_rfl) (by kernel_rfl) (fun _ _ _ h => h) (Or.inl ⟨by rfl, ?_⟩) hHeld ?_
  rotate_left
  · (intro w hSw; (try dsimp only at hSw); go_simp; (try with_reducible rfl))
  (try simp only [List.getElem_toArray, List.getElem_cons_succ, List.getElem_cons_zero, Act.put, List.setIfInBounds_toArray, List.set_cons_zero, List.set_cons_succ])
  refine wpAnyH_take (i := 10) (v := ?_) rfl (by kernel_rfl) (by kernel_rfl) (by kernel_rfl) (fun _ _ _ h => h) (Or.inl ⟨by rfl, ?_⟩) hHeld ?_
  rotate_left
  · (intro w hSw; (try dsimp only at hSw); go_simp; (try with_reducible rfl))
  (try simp only [List.getElem_toArray, List.getElem_cons_succ, List.getElem_cons_zero, Act.put, List.setIfInBounds_toArray, List.set_cons_zero, List.set_cons_succ])
  refine wpAnyH_take (i := 11) (v := ?_) rfl (by kernel_rfl) (by kernel_rfl) (by kernel_rfl) (fun _ _ _ h => h) (Or.inl ⟨by rfl, ?_⟩) hHeld ?_
  rotate_left
  · (intro w hSw; (try dsimp only at hSw); go_simp; (try with_reducible rfl))
  (try simp only [List.getElem_toArray, List.getElem_cons_succ, List.getElem_cons_zero, Act.put, List.setIfInBounds_toArray, List.set_cons_zero, List.set_cons_succ])
  refine wpAnyH_ready (rs := [5, 12]) (by kernel_rfl) (by simp) ?_
  refine AllReadyH.cons (o := _) rfl (fun K hK => ?_) (AllReadyH.cons (o := _) rfl (fun K hK => ?_) AllReadyH.nil)
  focus (
    go_simp
    refine hK.out _ _ ?_ (fun hHeld => ?_)
    · (try dsimp only); exact hHeld
    clear hK K
    (try simp only [List.getElem_toArray, List.getElem_cons_succ, List.getElem_cons_zero, Act.put, List.setIfInBounds_toArray, List.set_cons_zero, List.set_cons_succ])
    refine wpAnyH_ready (rs := [12]) (by kernel_rfl) (by simp) ?_
    refine AllReadyH.cons (o := _) rfl (fun K hK => ?_) AllReadyH.nil
    go_simp
    refine hK.out _ _ ?_ (fun hHeld => ?_)
    · (try dsimp only); exact ⟨cell_alloc_keep' hHeld.1, cell_alloc_keep' hHeld.2.1, cell_alloc_keep' hHeld.2.2⟩
    clear hK K
    (try simp only [List.getElem_toArray, List.getElem_cons_succ, List.getElem_cons_zero, Act.put, List.setIfInBounds_toArray, List.set_cons_zero, List.set_cons_succ])
  )
  rotate_left
  focus (
    go_simp
    refine hK.out _ _ ?_ (fun hHeld => ?_)
    · (try dsimp only); exact ⟨cell_alloc_keep' hHeld.1, cell_alloc_keep' hHeld.2.1, cell_alloc_keep' hHeld.2.2⟩
    clear hK K
    (try simp only [List.getElem_toArray, List.getElem_cons_succ, List.getElem_cons_zero, Act.put, List.setIfInBounds_toArray, List.set_cons_zero, List.set_cons_succ])
    refine wpAnyH_ready (rs := [5]) (by kernel_rfl) (by simp) ?_
    refine AllReadyH.cons (o := _) rfl (fun K hK => ?_) AllReadyH.nil
    go_simp
    refine hK.out _ _ ?_ (fun hHeld => ?_)
    · (try dsimp only); exact hHeld
    clear hK K
    (try simp only [List.getElem_toArray, List.getElem_cons_succ, List.getElem_cons_zero, Act.put, List.setIfInBounds_toArray, List.set_cons_zero, List.set_cons_succ])
  )
  rotate_left
  all_goals (
    refine wpAnyH_ready (rs := [13]) (by kernel_rfl) (by simp) ?_
    refine AllReadyH.cons (o := _) rfl (fun K hK => ?_) AllReadyH.nil
    rw [if_pos (by rfl)]
    refine wp_cut1 vd (vd.alloc (.cells #[.int .u64 (link : Int), .int .i64 (σ.seq : Int)] 230)) (.tmp 38) (.tmp 45) rfl rfl (link : Int) (σ.seq : Int) rfl rfl ?_; intro avl capl wl ql pl; have hrl := HQD.out.1.below pl; have y27l : wl.cell? ⟨A.be, 27, none⟩ = some (.slice none 0 0) := (HC28.out _ hrl); have z27l := hrl.engF 27; have t1 := (HK3.out _ (HQD.out.2.trans (Grow.below pl))).2.1; have t4 := (HK3.out _ (HQD.out.2.trans (Grow.below pl))).2.2.2.2; have t22 := HC22.out _ hrl; have r5 := hrl.cutSet (.slice avl 1 capl) (link, σ.seq) [] 0; have HQL := Lib.hid (And.intro ql (And.intro hrl (HQD.out.2.trans (Grow.below pl)))); clear ql pl hrl
    refine hK.out _ _ ?_ (fun hHeld => ?_)
    · (try dsimp only); exact ⟨t1, t4, t22⟩
    clear hK K
    (try simp only [List.getElem_toArray, List.getElem_cons_succ, List.getElem_cons_zero, Act.put, List.setIfInBounds_toArray, List.set_cons_zero, List.set_cons_succ])
    refine wpAnyH_take (i := 14) (v := ?_) rfl (by kernel_rfl) (by kernel_rfl) (by kernel_rfl) (fun _ _ _ h => h) (Or.inl ⟨by rfl, ?_⟩) hHeld ?_
    rotate_left
    · (intro w hSw; (try dsimp only at hSw); go_simp; (try with_reducible rfl))
    (try simp only [List.getElem_toArray, List.getElem_cons_succ, List.getElem_cons_zero, Act.put, List.setIfInBounds_toArray, List.set_cons_zero, List.set_cons_succ])
    refine wpAnyH_take (i := 15) (v := ?_) rfl (by kernel_rfl) (by kernel_rfl) (by kernel_rfl) (fun _ _ _ h => h) (Or.inl ⟨by rfl, ?_⟩) hHeld ?_
    rotate_left
    · (intro w hSw; (try dsimp only at hSw); go_simp; (try with_reducible rfl))
    (try simp only [List.getElem_toArray, List.getElem_cons_succ, List.getElem_cons_zero, Act.put, List.setIfInBounds_toArray, List.set_cons_zero, List.set_cons_succ])
    refine wpAnyH_take (i := 16) (v := ?_) rfl (by kernel_rfl) (by kernel_rfl) (by kernel_rfl) (fun _ _ _ h => h) (Or.inl ⟨by rfl, ?_⟩) hHeld ?_
    rotate_left
    · (intro w hSw; (try dsimp only at hSw); go_simp; (try with_reducible rfl))
    (try simp only [List.getElem_toArray, List.getElem_cons_succ, List.getElem_cons_zero, Act.put, List.setIfInBounds_toArray, List.set_cons_zero, List.set_cons_succ])
    refine wpAnyH_ready (rs := [17]) (by kernel_rfl) (by simp) ?_
    refine AllReadyH.cons (o := _) rfl (fun K hK => ?_) AllReadyH.nil
    go_simp
    refine hK.out _ _ ?_ (fun hHeld => ?_)
    · (try dsimp only); exact ⟨(HK3.out _ (HQL.out.2.2.trans r5.2)).2.1, (HK3.out _ (HQL.out.2.2.trans r5.2)).2.2.2.2, by rw [World.cell?_setCell_other _ _ _ _ (by simp)]; exact t22⟩
    clear hK K
    (try simp only [List.getElem_toArray, List.getElem_cons_succ, List.getElem_cons_zero, Act.put, List.setIfInBounds_toArray, List.set_cons_zero, List.set_cons_succ])
    refine wpAnyH_done (by kernel_rfl) ?_ _
  )
  all_goals (
    clear r5 t1 t4 t22 hHeld y27d z27d y27a
    obtain ⟨ql, hrl, hgl⟩ := HQL.out
    obtain ⟨r5, g5⟩ := hrl.cutSet (.slice avl 1 capl) (link, σ.seq) [] 0
    obtain ⟨A2, hA2⟩ : ∃ A2 : Book, A2 = { A with vcut := ((none, 0), .slice avl 1 capl) } := ⟨_, rfl⟩
    have e2be : A2.be = A.be := by rw [hA2]
    have e2L : A2.L = A.L := by rw [hA2]
    have e2v : A2.vcut.2 = .slice avl 1 capl := by rw [hA2]
    have hso : SOnly A A2 := by rw [hA2]; exact ⟨⟨_, _, _, _, _, rfl⟩, rfl⟩
    rw [← hA2] at r5
    have hfr : FRow A.L wl 2 (.slice avl 1 capl) (cutPs [(link, σ.seq)]) := by
      obtain ⟨aa, cc, e, h1, h2, _⟩ := Ow.own_form ql
      obtain ⟨rfl, rfl⟩ : avl = aa ∧ capl = cc := by simpa using e
      rcases ql.2 with ⟨h0, hn⟩ | ⟨gb, cap', cur, hv, hbb, hgg, hnc, hcm, hcs, htake⟩
      · cases hn
      · obtain ⟨rfl, rfl⟩ : avl = some ⟨gb, 0, none⟩ ∧ capl = cap' := by simpa using hv
        refine ⟨_, 1, capl, rfl, rfl, h1, by unfold maxLen; omega, .inr ⟨gb, 0, rfl, HQD.out.1.mem.fresh gb hbb, (ql.lt gb rfl).2, fun j hj => ?_⟩⟩
        rw [Nat.zero_add]
        exact ql.cellAt j hj
    generalize hw5 : wl.setCell ⟨A.be, 27, none⟩ (.slice avl 1 capl) = w5 at *
    have hg5 := hgl.trans g5
    have HF5 := Lib.hid (And.intro hso (And.intro e2be (And.intro e2L (And.intro e2v (And.intro (hfr.grow g5) hg5)))))
    have hM := svisit_any r5.drew key ahead nx hk
    rw [e2be] at hM
    have HM := Lib.hid hM
    have HR5 := Lib.hid r5
    clear hM hk hA2 hso hfr hrl hgl g5 ql HQL y27l z27l e2v
    have HKK2 : Hid (∀ σ' w', Rep A2 σ' w' → Grow A.L w A2.L w' → w'.cell? ⟨b0, 0, none⟩ = some (.int .u64 (ahead : Int)) ∧ w'.cell? ⟨b1, 0, none⟩ = some (.pointer (some ⟨A.be, 0, none⟩)) ∧ w'.cell? ⟨b2, 0, none⟩ = some (.int .u64 (nx : Int)) ∧ w'.cell? ⟨b3, 0, none⟩ = some (.int .i64 (key : Int)) ∧ w'.cell? ⟨b4, 0, none⟩ = some (.int .u64 (link : Int))) := fun σ' w' r g => by
      rw [e2L] at g
      exact HK3.out w' g
    have HKS2 : Hid (∀ σ' w' x, Rep A2 σ' w' → Grow A.L w A2.L w' → (w'.setCell ⟨A.be, 25, none⟩ x).cell? ⟨b0, 0, none⟩ = some (.int .u64 (ahead : Int)) ∧ (w'.setCell ⟨A.be, 25, none⟩ x).cell? ⟨b1, 0, none⟩ = some (.pointer (some ⟨A.be, 0, none⟩)) ∧ (w'.setCell ⟨A.be, 25, none⟩ x).cell? ⟨b2, 0, none⟩ = some (.int .u64 (nx : Int)) ∧ (w'.setCell ⟨A.be, 25, none⟩ x).cell? ⟨b3, 0, none⟩ = some (.int .i64 (key : Int)) ∧ (w'.setCell ⟨A.be, 25, none⟩ x).cell? ⟨b4, 0, none⟩ = some (.int .u64 (link : Int))) := fun σ' w' x r g => by
      have h := (r.sweepSet x .now).2
      rw [e2be] at h
      rw [e2L] at h g
      exact HK3.out _ (g.trans h)
    replace hg5 : Grow A.L w A2.L w5 := by rw [e2L]; exact hg5
    obtain ⟨g0, g1, g2, g3, g4⟩ := HKK2.out _ _ r5 hg5
    have HG5 := Lib.hid (hg5.trans (Grow.drew A2.L w5))
    clear hg5 r5
    cases hkk : visitS key ahead nx with
    | none =>
      rw [hkk] at HM
      go_wp2_with fail
      go_region_held3 (fun w' => w'.cell? ⟨b0, 0, none⟩ = some (.int .u64 (ahead : Int)) ∧ w'.cell? ⟨b1, 0, none⟩ = some (.pointer (some ⟨A.be, 0, none⟩)) ∧ w'.cell? ⟨b2, 0, none⟩ = some (.int .u64 (nx : Int)) ∧ w'.cell? ⟨b3, 0, none⟩ = some (.int .i64 (key : Int)) ∧ w'.cell? ⟨b4, 0, none⟩ = some (.int .u64 (link : Int)))
        (first | exact ⟨g0, g1, g2, g3, g4⟩ | assumption | go_keep | exact HKK2.out _ _ (by assumption) (by assumption) | exact HKS2.out _ _ _ (by assumption) (by assumption))
        (first | (go_at_call 179; refine HM.out.mono ?_; rintro e w2 ⟨v, rfl, p1, p2, p3⟩; have e3 : v = .nilFunc := p3; subst e3;  have z25 := p1.engF 25; obtain ⟨vo, y25⟩ : ∃ vo, w2.cell? ⟨A2.be, 25, none⟩ = some vo := ⟨_, p1.eng 25 rfl⟩; rw [HF5.out.2.1] at z25 y25; have q5 := HG5.out.trans p2; have q9 := (Grow.drew A2.L w5).trans p2; have HP := Lib.hid p3; clear p2 p3))
      go_wp2_with fail
      go_ret
      obtain ⟨k1, k2, k3, k4, k5, k6⟩ := HF5.out
      obtain ⟨A', a1, a2, a3, a4, a5⟩ := p1.sweepPut _ _ HP.out
      rw [k2] at a3 a4 a5
      rw [hkk]
      refine ⟨rfl, A', k1.trans a1, a3, q5.trans a4, a5, fun _ => .inr ⟨avl, capl, ?_, ?_⟩⟩
      · rw [a2]; exact k4
      · rw [a2, k4]
        have h9 : FRow A2.L w5 2 (.slice avl 1 capl) (cutPs [(link, σ.seq)]) := by rw [k3]; exact k5
        exact h9.grow (q9.trans a4)
    | some kx =>
      rw [hkk] at HM
      go_wp2_with fail
      go_region_held3 (fun w' => w'.cell? ⟨b0, 0, none⟩ = some (.int .u64 (ahead : Int)) ∧ w'.cell? ⟨b1, 0, none⟩ = some (.pointer (some ⟨A.be, 0, none⟩)) ∧ w'.cell? ⟨b2, 0, none⟩ = some (.int .u64 (nx : Int)) ∧ w'.cell? ⟨b3, 0, none⟩ = some (.int .i64 (key : Int)) ∧ w'.cell? ⟨b4, 0, none⟩ = some (.int .u64 (link : Int)))
        (first | exact ⟨g0, g1, g2, g3, g4⟩ | assumption | go_keep | exact HKK2.out _ _ (by assumption) (by assumption) | exact HKS2.out _ _ _ (by assumption) (by assumption))
        (first | (go_at_call 179; refine HM.out.mono ?_; rintro e w2 ⟨v, rfl, p1, p2, p3⟩; obtain ⟨fv, fb, fc, e3⟩ := SRep.form p3; subst e3;  have z25 := p1.engF 25; obtain ⟨vo, y25⟩ : ∃ vo, w2.cell? ⟨A2.be, 25, none⟩ = some vo := ⟨_, p1.eng 25 rfl⟩; rw [HF5.out.2.1] at z25 y25; have q5 := HG5.out.trans p2; have q9 := (Grow.drew A2.L w5).trans p2; have HP := Lib.hid p3; clear p2 p3))
      go_wp2_with fail
      go_ret
      obtain ⟨k1, k2, k3, k4, k5, k6⟩ := HF5.out
      obtain ⟨A', a1, a2, a3, a4, a5⟩ := p1.sweepPut _ _ HP.out
      rw [k2] at a3 a4 a5
      rw [hkk]
      refine ⟨rfl, A', k1.trans a1, a3, q5.trans a4, a5, fun _ => .inr ⟨avl, capl, ?_, ?_⟩⟩
      · rw [a2]; exact k4
      · rw [a2, k4]
        have h9 : FRow A2.L w5 2 (.slice avl 1 capl) (cutPs [(link, σ.seq)]) := by rw [k3]; exact k5
        exact h9.grow (q9.trans a4)
  )
end Go.Proofs.YtbefcdjcefmicaaGreat.Em

namespace Go.Proofs.YtbefcdjcefmicaaGreat.Em
open Go.ChangeShapes Go.WideShapes Go.ChangeAt Go.RowKit En
set_option linter.unusedVariables false
set_option linter.unusedSimpArgs false
set_option maxRecDepth 100000
set_option maxHeartbeats 1600000

theorem liveS_some (s : Nat) : ∃ k, liveS s = some k := by
  unfold liveS headS
  split
  · exact ⟨_, rfl⟩
  · exact ⟨_, rfl⟩
theorem k_live {A : Book} {σ : St} {w : World} (hR : Rep A σ w) (s : Nat) (hs : s < 8) (hcnt : σ.count < 4000000000000000000) (b0 b1 : Nat) (B0 : Box A.L w b0 (.pointer (some ⟨A.be, 0, none⟩))) (B1 : Box A.L w b1 (.int .i64 (s : Int))) :
    Calls Tryz.prog 160 #[.pointer (some ⟨b0, 0, none⟩), .pointer (some ⟨b1, 0, none⟩)] w (SRan A σ w (σ.sweepRun (.live s))) := by
  have c0 := B0.cell
  have c1 := B1.cell
  have e2 : w.cell? ⟨A.be, 2, none⟩ = some (.pointer (some ⟨A.ba, 0, none⟩)) := hR.eng 2 rfl
  have n1 : IntKind.i64.wrap (1 + (s : Int)) = 1 + (s : Int) := by rw [IntKind.wrap_i64]; omega
  have n2 : IntKind.i64.wrap ((s : Int) + 1) = ((s + 1 : Nat) : Int) := by rw [IntKind.wrap_i64]; omega
  have HL : Hid (∀ w', Rep A σ w' → Calls Tryz.prog 73 #[.pointer (some ⟨A.ba, 0, none⟩), .int .i64 (1 + (s : Int))] w' (Did A w' σ.tick (.int .u64 (σ.word (1 + s) : Int)))) := fun w' r => load_i r (1 + s) (1 + (s : Int)) (by omega) (by rw [r.nw]; omega) hcnt
  have HRd : Hid (Rep A σ w.drew) := hR.drew
  have HG : Hid (Grow A.L w A.L w.drew) := Grow.drew _ _
  have HKK : Hid (∀ σ' w', Rep A σ' w' → Grow A.L w A.L w' → w'.cell? ⟨b0, 0, none⟩ = some (.pointer (some ⟨A.be, 0, none⟩)) ∧ w'.cell? ⟨b1, 0, none⟩ = some (.int .i64 (s : Int)) ∧ w'.cell? ⟨A.be, 2, none⟩ = some (.pointer (some ⟨A.ba, 0, none⟩))) := fun σ' w' r g => ⟨(B0.grow g).cell, (B1.grow g).cell, r.eng 2 rfl⟩
  have HKS : Hid (∀ σ' w' x, Rep A σ' w' → Grow A.L w A.L w' → (w'.setCell ⟨A.be, 25, none⟩ x).cell? ⟨b0, 0, none⟩ = some (.pointer (some ⟨A.be, 0, none⟩)) ∧ (w'.setCell ⟨A.be, 25, none⟩ x).cell? ⟨b1, 0, none⟩ = some (.int .i64 (s : Int)) ∧ (w'.setCell ⟨A.be, 25, none⟩ x).cell? ⟨A.be, 2, none⟩ = some (.pointer (some ⟨A.ba, 0, none⟩))) := fun σ' w' x r g => let ⟨r', g'⟩ := r.sweepSet x .now; ⟨(B0.grow (g.trans g')).cell, (B1.grow (g.trans g')).cell, r'.eng 2 rfl⟩
  have HM : Hid (∀ σ' w', Rep A σ' w' → Calls Tryz.prog 136 #[.pointer (some ⟨A.be, 0, none⟩), .int .i64 ((s + 1 : Nat) : Int)] w' (STells A σ' w' (liveS (s + 1)))) := fun σ' w' r => slive_any r (s + 1) (by omega)
  obtain ⟨kx, hkx⟩ := liveS_some (s + 1)
  have HRES : σ.sweepRun (.live s) = ({ σ.tick with low := if 0 < σ.word (1 + s) then min σ.low (σ.word (1 + s)) else σ.low, sw := some kx }, false) := by rw [← hkx]; rfl
  rw [HRES]
  clear hR hcnt B0 B1 HRES
  generalize σ.word (1 + s) = at_ at *
  generalize ((s + 1 : Nat) : Int) = s1 at *
  by_cases h0 : 0 < at_
  · have f1 : ((0 : Int) < (at_ : Int)) = True := by simp; omega
    have f2 : decide ((0 : Int) < (at_ : Int)) = true := by simp; omega
    have f3 : decide (0 < at_) = true := by simp; omega
    have f4 : (0 < at_) = True := by simp; omega
    have hmin : ((min σ.low at_ : Nat) : Int) = (if at_ < σ.low then (at_ : Int) else (σ.low : Int)) := by split <;> omega
    have HLOW : Hid (∀ w', Rep A σ.tick w' → Rep A { σ.tick with low := min σ.low at_ } (w'.setCell ⟨A.be, 26, none⟩ (.int .u64 ((min σ.low at_ : Nat) : Int))) ∧ Grow A.L w' A.L (w'.setCell ⟨A.be, 26, none⟩ (.int .u64 ((min σ.low at_ : Nat) : Int)))) := fun w' r => r.lowSet _
    rw [hmin] at HLOW
    generalize min σ.low at_ = mn at *
    clear hmin
    rw [if_pos h0]
    clear h0
    go_enter Tryz.func160, Tryz.ntmps160
    go_wp2_with fail
    go_region_held3 (fun w' => w'.cell? ⟨b0, 0, none⟩ = some (.pointer (some ⟨A.be, 0, none⟩)) ∧ w'.cell? ⟨b1, 0, none⟩ = some (.int .i64 (s : Int)) ∧ w'.cell? ⟨A.be, 2, none⟩ = some (.pointer (some ⟨A.ba, 0, none⟩)))
      (first | exact ⟨c0, c1, e2⟩ | assumption | go_keep | exact HKK.out _ _ (by assumption) (by assumption))
      (first | (go_at_call 73; refine (HL.out _ HRd.out).mono ?_; rintro e w1 ⟨rfl, q1, q2⟩; have q4 := HG.out.trans q2))
    obtain ⟨d0, d1, d2⟩ := HKK.out _ _ q1 q4
    have y26 : w1.cell? ⟨A.be, 26, none⟩ = some (.int .u64 (σ.low : Int)) := q1.eng 26 rfl
    have z26 := q1.engF 26
    have HQ := Lib.hid (And.intro q1 q4)
    clear q1 q2 q4
    go_wp2_with fail
    refine wp_region_still_tail 11 (by kernel_rfl) (by kernel_rfl) ?_
    simp only [List.take_succ_cons, List.take_zero, List.drop_succ_cons, List.drop_zero]
    repeat still_step
    refine wpStill_nil ?_
    change wpList _ _ _ _ _ w1.drew
    have y26d : w1.drew.cell? ⟨A.be, 26, none⟩ = some (.int .u64 (σ.low : Int)) := y26
    have z26d : w1.drew.frozen? ⟨A.be, 26, none⟩ = false := z26
    have HQ2 := Lib.hid (And.intro HQ.out.1.drew (HQ.out.2.trans (Grow.drew _ _)))
    clear y26 z26 HQ d0 d1 d2
    generalize w1.drew = wd at *
    obtain ⟨r3, g3⟩ := HLOW.out _ HQ2.out.1
    have HQ3 := Lib.hid (And.intro r3 (HQ2.out.2.trans g3))
    clear r3 g3 HQ2 HLOW
    generalize (if at_ < σ.low then (at_ : Int) else (σ.low : Int)) = mz at *
    go_upto_region 4 with fail
    generalize wd.setCell ⟨A.be, 26, none⟩ (.int .u64 mz) = we at *
    obtain ⟨d0, d1, d2⟩ := HKK.out _ _ (HQ3.out.1) (HQ3.out.2)
    have HQ1 := Lib.hid (HQ3.out.1).drew
    have HG1 := Lib.hid ((HQ3.out.2).trans (Grow.drew _ _))
    go_wp2_with fail
    go_region_held3 (fun w' => w'.cell? ⟨b0, 0, none⟩ = some (.pointer (some ⟨A.be, 0, none⟩)) ∧ w'.cell? ⟨b1, 0, none⟩ = some (.int .i64 (s : Int)) ∧ w'.cell? ⟨A.be, 2, none⟩ = some (.pointer (some ⟨A.ba, 0, none⟩)))
      (first | exact ⟨d0, d1, d2⟩ | assumption | go_keep | exact HKK.out _ _ (by assumption) (by assumption) | exact HKS.out _ _ _ (by assumption) (by assumption))
      (first | (go_at_call 136; refine (HM.out _ _ HQ1.out).mono ?_; rintro e w2 ⟨v, rfl, p1, p2, p3⟩; rw [hkx] at p3; obtain ⟨fv, fb, fc, e3⟩ := SRep.form p3; subst e3; have z25 := p1.engF 25; obtain ⟨vo, y25⟩ : ∃ vo, w2.cell? ⟨A.be, 25, none⟩ = some vo := ⟨_, p1.eng 25 rfl⟩; have q5 := HG1.out.trans p2; have HP := Lib.hid p3; clear p2 p3))
    go_wp2_with fail
    go_ret
    obtain ⟨A', a1, a2, a3, a4, a5⟩ := p1.sweepPut _ _ HP.out
    exact ⟨rfl, A', a1, a3, q5.trans a4, a5, fun hc => hc.keep a2 rfl (q5.trans a4)⟩

  · have f1 : ((0 : Int) < (at_ : Int)) = False := by simp; omega
    have f2 : decide ((0 : Int) < (at_ : Int)) = false := by simp; omega
    have f3 : decide (0 < at_) = false := by simp; omega
    have f4 : (0 < at_) = False := by simp; omega
    rw [if_neg h0]
    clear h0
    go_enter Tryz.func160, Tryz.ntmps160
    go_wp2_with fail
    go_region_held3 (fun w' => w'.cell? ⟨b0, 0, none⟩ = some (.pointer (some ⟨A.be, 0, none⟩)) ∧ w'.cell? ⟨b1, 0, none⟩ = some (.int .i64 (s : Int)) ∧ w'.cell? ⟨A.be, 2, none⟩ = some (.pointer (some ⟨A.ba, 0, none⟩)))
      (first | exact ⟨c0, c1, e2⟩ | assumption | go_keep | exact HKK.out _ _ (by assumption) (by assumption))
      (first | (go_at_call 73; refine (HL.out _ HRd.out).mono ?_; rintro e w1 ⟨rfl, q1, q2⟩; have q4 := HG.out.trans q2))
    obtain ⟨d0, d1, d2⟩ := HKK.out _ _ (q1) (q4)
    have HQ1 := Lib.hid (q1).drew
    have HG1 := Lib.hid ((q4).trans (Grow.drew _ _))
    go_wp2_with fail
    go_region_held3 (fun w' => w'.cell? ⟨b0, 0, none⟩ = some (.pointer (some ⟨A.be, 0, none⟩)) ∧ w'.cell? ⟨b1, 0, none⟩ = some (.int .i64 (s : Int)) ∧ w'.cell? ⟨A.be, 2, none⟩ = some (.pointer (some ⟨A.ba, 0, none⟩)))
      (first | exact ⟨d0, d1, d2⟩ | assumption | go_keep | exact HKK.out _ _ (by assumption) (by assumption) | exact HKS.out _ _ _ (by assumption) (by assumption))
      (first | (go_at_call 136; refine (HM.out _ _ HQ1.out).mono ?_; rintro e w2 ⟨v, rfl, p1, p2, p3⟩; rw [hkx] at p3; obtain ⟨fv, fb, fc, e3⟩ := SRep.form p3; subst e3; have z25 := p1.engF 25; obtain ⟨vo, y25⟩ : ∃ vo, w2.cell? ⟨A.be, 25, none⟩ = some vo := ⟨_, p1.eng 25 rfl⟩; have q5 := HG1.out.trans p2; have HP := Lib.hid p3; clear p2 p3))
    go_wp2_with fail
    go_ret
    obtain ⟨A', a1, a2, a3, a4, a5⟩ := p1.sweepPut _ _ HP.out
    exact ⟨rfl, A', a1, a3, q5.trans a4, a5, fun hc => hc.keep a2 rfl (q5.trans a4)⟩
theorem sw_now {A : Book} {σ : St} {w : World} (hR : Rep A σ w) (hcnt : σ.count < 4000000000000000000) (hx : σ.word 0 < 18446744073709551616) :
    Calls Tryz.prog 106 #[.pointer (some ⟨A.be, 0, none⟩)] w (SRan A σ w (σ.sweepRun .now)) := by
  have e2 : w.cell? ⟨A.be, 2, none⟩ = some (.pointer (some ⟨A.ba, 0, none⟩)) := hR.eng 2 rfl
  have HL : Hid (Calls Tryz.prog 73 #[.pointer (some ⟨A.ba, 0, none⟩), .int .i64 0] w (Did A w σ.tick (.int .u64 (σ.word 0 : Int)))) := load_i hR 0 0 rfl (by rw [hR.nw]; omega) hcnt
  have HD := Lib.hid (drawn_any (σ.word 0) hx)
  have HM : Hid (∀ σ' w', Rep A σ' w' → Calls Tryz.prog 136 #[.pointer (some ⟨A.be, 0, none⟩), .int .i64 0] w' (STells A σ' w' (liveS 0))) := fun σ' w' r => slive_any r 0 (by omega)
  obtain ⟨kx, hkx⟩ := liveS_some 0
  have HRES : σ.sweepRun .now = ({ σ.tick with low := timeOf (σ.word 0), sw := some kx }, false) := by rw [← hkx]; rfl
  rw [HRES]
  clear hR hcnt hx HRES
  generalize timeOf (σ.word 0) = tt at *
  generalize (σ.word 0 : Int) = x0 at *
  go_enter Tryz.func106, Tryz.ntmps106
  go_wp2_with (first | (go_at_call 73; refine HL.out.mono ?_; rintro e w1 ⟨rfl, q1, q2⟩; have y26 : w1.cell? ⟨A.be, 26, none⟩ = some (.int .u64 (σ.low : Int)) := (q1.eng 26 rfl); have z26 := q1.engF 26; have hls := q1.lowSet tt; have HQ := Lib.hid (And.intro hls.1 (q2.trans hls.2)); clear q1 q2 hls) | (go_at_call 59; refine (HD.out _).mono ?_; rintro e w9 ⟨rfl, rfl⟩) | (go_at_call 136; refine (HM.out _ _ HQ.out.1).mono ?_; rintro e w2 ⟨v, rfl, p1, p2, p3⟩; rw [hkx] at p3; obtain ⟨fv, fb, fc, e3⟩ := SRep.form p3; subst e3; have z25 := p1.engF 25; obtain ⟨vo, y25⟩ : ∃ vo, w2.cell? ⟨A.be, 25, none⟩ = some vo := ⟨_, p1.eng 25 rfl⟩; have q5 := HQ.out.2.trans p2; have HP := Lib.hid p3; clear p2 p3))
  go_ret
  obtain ⟨A', a1, a2, a3, a4, a5⟩ := p1.sweepPut _ _ HP.out
  exact ⟨rfl, A', a1, a3, q5.trans a4, a5, fun hc => hc.keep a2 rfl (q5.trans a4)⟩
end Go.Proofs.YtbefcdjcefmicaaGreat.Em
