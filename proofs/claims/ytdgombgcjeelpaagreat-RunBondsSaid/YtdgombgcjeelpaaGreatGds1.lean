/- Texts of this claim, laid together: Bop, Sr, Boe, Bod0, Bod1, Bod2, Bod, Lt, Box, Bow000. -/
import Derived.Test.YtdgombgcjeelpaaGreatBase21
import Derived.Test.YtdgombgcjeelpaaGreatBase15
import Derived.Deep.Cut
import Derived.Deep.RegionWith
namespace Go.Proofs.YtdgombgcjeelpaaGreat.Em
open Go.ChangeShapes Go.WideShapes Go.ChangeAt Go.RowKit En
set_option linter.unusedVariables false
set_option linter.unusedSimpArgs false
set_option maxRecDepth 100000
set_option maxHeartbeats 1600000

def wayOf (how : Nat) : En.Op := if how = 0 then ⟨3, 3, 0, 20⟩ else if how = 1 then ⟨4, 3, 0, 0⟩ else ⟨2, 4, 0, 40⟩
/-- Steps while a session's transaction lives; the last one's result. -/
def runLast (s : Nat) : Nat → St → Nat → Res → Option (St × Nat × Res)
  | 0, _, _, _ => none
  | f + 1, σ, kd, r => if (σ.status s).live = false then some (σ, kd, r) else match oneStep σ s with | some (σ', kd', r') => runLast s f σ' kd' r' | none => none
/-- So many steps, none an end. -/
def runSome (s : Nat) : Nat → St → Option St
  | 0, σ => some σ
  | f + 1, σ => match oneStep σ s with | some (σ', kd, _) => if kd = 3 then none else runSome s f σ' | none => none
def bondHead1 (level : Nat) (poison : Bool) : Option St :=
  match runWhole 1000 (new 40 1000) 7 1 [⟨2, 3, 0, 10⟩, ⟨2, 9, 0, 1⟩] with
  | some (σ0, [_, _, _], 0) => match beginOk σ0 0 level with
    | some (σ1, _) => if poison = false then some σ1 else
      match issueOk σ1 0 ⟨1, 9, 0, 0⟩ with
      | some σ2 => match runDo 1000 σ2 0 with
        | some (σ3, r, 0) => if r.value = 1 then some σ3 else none
        | _ => none
      | none => none
    | none => none
  | _ => none
def bondHead2 (how : Nat) (poison : Bool) (σ : St) : Option St :=
  match issueOk σ 0 (wayOf how) with
  | some σ1 => match runDo 1000 σ1 0 with
    | some (σ2, r, 0) => if r.e = 0 then (if poison = false then some σ2 else match runWhole 1000 σ2 6 1 [⟨3, 9, 0, 2⟩] with | some (σ3, [_, _], 0) => some σ3 | _ => none) else none
    | _ => none
  | none => none
def bondHead3 (σ : St) : Option St :=
  match issueOk σ 0 ⟨6, 0, 0, 0⟩ with
  | some σ1 => match runPrep 1000 σ1 0 with
    | some (σ2, true) => if (σ2.status 0).state = 2 ∧ 0 < (σ2.status 0).end_ then some σ2 else none
    | _ => none
  | none => none
def readOf (how : Nat) (scan : Bool) : En.Op := if scan then ⟨5, 3, 4, 0⟩ else if how = 2 then ⟨1, 4, 0, 0⟩ else ⟨1, 3, 0, 0⟩
def wantOf (how : Nat) (scan : Bool) : Res := if scan then (if how = 0 then { pairs := [(3, 20)] } else if how = 1 then {} else { pairs := [(3, 10), (4, 40)] }) else (if how = 0 then { value := 20 } else if how = 1 then { e := 11 } else { value := 40 })
def bondRead (how reader : Nat) (scan : Bool) (σ : St) : Option St :=
  match beginOk σ 1 reader with
  | some (σ1, _) => match issueOk σ1 1 (readOf how scan) with
    | some σ2 => match runDo 1000 σ2 1 with
      | some (σ3, r, 0) => if r = wantOf how scan then some σ3 else none
      | _ => none
    | none => none
  | none => none
def bondEnd (how : Nat) (poison : Bool) (σ : St) : Bool :=
  thn (issueOk σ 1 ⟨6, 0, 0, 0⟩) fun σ1 => thn (runDo 1000 σ1 1) fun x => (x.2.2 == 18 && (x.1.status 1).busy) &&
  thn (runSome 1 10 x.1) fun σ2 => thn (runLast 0 1000 σ2 0 {}) fun y => thn (runLast 1 1000 y.1 0 {}) fun z => okPairs z.1 &&
    (if poison then z.2.2.over == 4 && z.2.2.reason == 4 && z.1.pairs.length == 2 && z.1.pairs.head? == some (3, 10) else z.2.2.over == 3 && z.1.pairs.length == (if how = 0 then 2 else if how = 1 then 1 else 3))
def bondRun (how level reader : Nat) (scan poison : Bool) : Bool :=
  thn (bondHead1 level poison) fun σ1 => thn (bondHead2 how poison σ1) fun σ2 => thn (bondHead3 σ2) fun σ3 => thn (bondRead how reader scan σ3) fun σ4 => bondEnd how poison σ4
/-- All readers, both ways to read. -/
def bondSix (h l : Nat) (p : Bool) : Bool := (bondRun h l 1 false p && bondRun h l 1 true p) && ((bondRun h l 2 false p && bondRun h l 2 true p) && (bondRun h l 3 false p && bondRun h l 3 true p))
theorem six_ok {h l r : Nat} {s p : Bool} (h4 : 1 ≤ r) (h5 : r ≤ 3) (hh : bondSix h l p = true) : bondRun h l r s p = true := by
  unfold bondSix at hh
  simp only [Bool.and_eq_true] at hh
  have hc : r = 1 ∨ r = 2 ∨ r = 3 := by omega
  rcases hc with rfl | rfl | rfl <;> cases s
  · exact hh.1.1
  · exact hh.1.2
  · exact hh.2.1.1
  · exact hh.2.1.2
  · exact hh.2.2.1
  · exact hh.2.2.2
theorem six_010 : bondSix 0 1 false = true := by decide +kernel
theorem six_110 : bondSix 1 1 false = true := by decide +kernel
theorem six_210 : bondSix 2 1 false = true := by decide +kernel
theorem six_020 : bondSix 0 2 false = true := by decide +kernel
theorem six_120 : bondSix 1 2 false = true := by decide +kernel
theorem six_220 : bondSix 2 2 false = true := by decide +kernel
theorem six_030 : bondSix 0 3 false = true := by decide +kernel
theorem six_130 : bondSix 1 3 false = true := by decide +kernel
theorem six_230 : bondSix 2 3 false = true := by decide +kernel
theorem six_021 : bondSix 0 2 true = true := by decide +kernel
theorem six_121 : bondSix 1 2 true = true := by decide +kernel
theorem six_221 : bondSix 2 2 true = true := by decide +kernel
theorem six_031 : bondSix 0 3 true = true := by decide +kernel
theorem six_131 : bondSix 1 3 true = true := by decide +kernel
theorem six_231 : bondSix 2 3 true = true := by decide +kernel
theorem bond_all (how level reader : Nat) (scan poison : Bool) (h1 : how ≤ 2) (h2 : 1 ≤ level) (h3 : level ≤ 3) (h4 : 1 ≤ reader) (h5 : reader ≤ 3) (h6 : poison = true → level ≠ 1) : bondRun how level reader scan poison = true := by
  refine six_ok h4 h5 ?_
  have ha : how = 0 ∨ how = 1 ∨ how = 2 := by omega
  have hb : level = 1 ∨ level = 2 ∨ level = 3 := by omega
  cases poison <;> rcases hb with rfl | rfl | rfl <;> rcases ha with rfl | rfl | rfl
  · exact six_010
  · exact six_110
  · exact six_210
  · exact six_020
  · exact six_120
  · exact six_220
  · exact six_030
  · exact six_130
  · exact six_230
  · exact absurd rfl (h6 rfl)
  · exact absurd rfl (h6 rfl)
  · exact absurd rfl (h6 rfl)
  · exact six_021
  · exact six_121
  · exact six_221
  · exact six_031
  · exact six_131
  · exact six_231
end Go.Proofs.YtdgombgcjeelpaaGreat.Em

namespace Go.Proofs.YtdgombgcjeelpaaGreat.Em
open Go.ChangeShapes Go.WideShapes Go.ChangeAt Go.RowKit En
set_option linter.unusedVariables false
set_option linter.unusedSimpArgs false
set_option maxRecDepth 100000
set_option maxHeartbeats 1600000

theorem same_result (e v x y : Int) (a1 a2 : Option Addr) (n c1 c2 : Nat) (ps : List (Nat × Nat)) (w : World) (h1 : Ow.Row w 0 2 (.slice a1 n c1) (pairCs ps)) (h2 : Ow.Row w 0 2 (.slice a2 n c2) (pairCs ps)) :
    Calls Tryz.prog 38 #[.agg #[.int .i64 e, .int .i64 v, .slice a1 n c1, .int .i64 x, .int .i64 y], .agg #[.int .i64 e, .int .i64 v, .slice a2 n c2, .int .i64 x, .int .i64 y]] w fun e w' => e = .returned (.bool true) ∧ Below w.heap.size w w' := by
  have H1 := Lib.hid h1
  have H2 := Lib.hid h2
  clear h1 h2
  go_enter Tryz.func38, Tryz.ntmps38
  go_wp2_with (go_at_call 41; refine (same_pairs _ _ ps _ _ _ (Row.alloc' (Row.alloc' H1.out _) _) (Row.alloc' (Row.alloc' H2.out _) _)).mono ?_; rintro e w9 ⟨rfl, q⟩; have HB := Lib.hid q; clear q)
  go_ret
  refine ⟨rfl, ?_⟩
  have hb := HB.out
  have h2 : Below w.heap.size w ((w.alloc (.cells #[.int .i64 e, .int .i64 v, .slice a1 n c1, .int .i64 x, .int .i64 y] 42)).alloc (.cells #[.int .i64 e, .int .i64 v, .slice a2 n c2, .int .i64 x, .int .i64 y] 42)) := (((Below.refl _ _).alloc (Nat.le_refl _) _)).alloc (by simp) _
  exact h2.trans (hb.mono h2.size)
end Go.Proofs.YtdgombgcjeelpaaGreat.Em

namespace Go.Proofs.YtdgombgcjeelpaaGreat.Em
open Go.ChangeShapes Go.WideShapes Go.ChangeAt Go.RowKit En
set_option linter.unusedVariables false
set_option linter.unusedSimpArgs false
set_option maxRecDepth 100000
set_option maxHeartbeats 1600000

theorem bondHead1_ok {level : Nat} {p : Bool} {σ : St} (h : bondHead1 level p = some σ) : ∃ σ0 r0 r1 r2 σ1 i, runWhole 1000 (new 40 1000) 7 1 [⟨2, 3, 0, 10⟩, ⟨2, 9, 0, 1⟩] = some (σ0, [r0, r1, r2], 0) ∧ beginOk σ0 0 level = some (σ1, i) ∧ ((p = false ∧ σ1 = σ) ∨ (p = true ∧ ∃ σ2 r, issueOk σ1 0 ⟨1, 9, 0, 0⟩ = some σ2 ∧ runDo 1000 σ2 0 = some (σ, r, 0) ∧ r.value = 1)) := by
  unfold bondHead1 at h
  split at h
  · rename_i σ0 r0 r1 r2 h0
    split at h
    · rename_i σ1 i h1
      refine ⟨σ0, r0, r1, r2, σ1, i, h0, h1, ?_⟩
      split at h
      · rename_i hp
        exact .inl ⟨hp, Option.some.inj h⟩
      · rename_i hp
        split at h
        · rename_i σ2 h2
          split at h
          · rename_i σ3 r h3
            split at h
            · rename_i hr
              obtain rfl := Option.some.inj h
              exact .inr ⟨by simpa using hp, σ2, r, h2, h3, hr⟩
            · cases h
          · cases h
        · cases h
    · cases h
  · cases h
theorem bondHead2_ok {how : Nat} {p : Bool} {σ σ' : St} (h : bondHead2 how p σ = some σ') : ∃ σ1 σ2 r, issueOk σ 0 (wayOf how) = some σ1 ∧ runDo 1000 σ1 0 = some (σ2, r, 0) ∧ r.e = 0 ∧ ((p = false ∧ σ2 = σ') ∨ (p = true ∧ ∃ r0 r1, runWhole 1000 σ2 6 1 [⟨3, 9, 0, 2⟩] = some (σ', [r0, r1], 0))) := by
  unfold bondHead2 at h
  split at h
  · rename_i σ1 h1
    split at h
    · rename_i σ2 r h2
      split at h
      · rename_i hr
        refine ⟨σ1, σ2, r, h1, h2, hr, ?_⟩
        split at h
        · rename_i hp
          exact .inl ⟨hp, Option.some.inj h⟩
        · rename_i hp
          split at h
          · rename_i σ3 r0 r1 h3
            obtain rfl := Option.some.inj h
            exact .inr ⟨by simpa using hp, r0, r1, h3⟩
          · cases h
      · cases h
    · cases h
  · cases h
theorem bondHead3_ok {σ σ' : St} (h : bondHead3 σ = some σ') : ∃ σ1, issueOk σ 0 ⟨6, 0, 0, 0⟩ = some σ1 ∧ runPrep 1000 σ1 0 = some (σ', true) ∧ (σ'.status 0).state = 2 ∧ 0 < (σ'.status 0).end_ := by
  unfold bondHead3 at h
  split at h
  · rename_i σ1 h1
    split at h
    · rename_i σ2 h2
      split at h
      · rename_i hh
        obtain rfl := Option.some.inj h
        exact ⟨σ1, h1, h2, hh.1, hh.2⟩
      · cases h
    · cases h
  · cases h
theorem nw_kt (w : World) : Calls Tryz.prog 23 #[.agg #[.int .i64 40, .int .u64 1000]] w fun e w' => ∃ b, e = .returned (.tuple #[.pointer (some ⟨b, 0, none⟩), .int .i64 0]) ∧ EKt b w [] (new 40 1000) w' := (new_at 40 1000 (by omega) (by omega) (by omega) (by omega) w).mono fun e w' ⟨b, h, q⟩ => ⟨b, h, q.kt⟩
theorem wh_kt {b : Nat} {w0 : World} {σ : St} {r0 r1 r2 : Res} (h0 : runWhole 1000 (new 40 1000) 7 1 [⟨2, 3, 0, 10⟩, ⟨2, 9, 0, 1⟩] = some (σ, [r0, r1, r2], 0)) : ∀ ks w1, EKt b w0 ks (new 40 1000) w1 → Calls Tryz.prog 36 #[.pointer (some ⟨b, 0, none⟩), .int .i64 7, .int .i64 1, .slice (some ⟨w1.heap.size, 0, none⟩) 2 2] (w1.alloc (.cells #[.int .i64 2, .int .i64 3, .int .i64 0, .int .i64 10, .int .i64 2, .int .i64 9, .int .i64 0, .int .i64 1] 31)) fun e w' => ∃ rb ro rc, e = .returned (.tuple #[.slice (some ⟨rb, ro, none⟩) 3 rc, .int .i64 0]) ∧ EKt b w0 ks σ w' := fun ks w1 h => by
  refine (whole_kt h (ops := [⟨2, 3, 0, 10⟩, ⟨2, 9, 0, 1⟩]) (level := 1) (s := 7) #[.int .i64 2, .int .i64 3, .int .i64 0, .int .i64 10, .int .i64 2, .int .i64 9, .int .i64 0, .int .i64 1] 2 (by decide) (by decide : (1000 : Nat) ≤ _) h0 rfl rfl (by decide) (by simp)).mono ?_
  rintro e w' ⟨rb, ro, rc, rfl, q1, _⟩
  exact ⟨rb, ro, rc, rfl, q1⟩
theorem is_kt {b : Nat} {w0 : World} {σ σ1 : St} (hi : issueOk σ 0 ⟨6, 0, 0, 0⟩ = some σ1) : ∀ ks w1, EKt b w0 ks σ w1 → Calls Tryz.prog 17 #[.pointer (some ⟨b, 0, none⟩), .int .i64 0, .agg #[.int .i64 6, .int .i64 0, .int .i64 0, .int .i64 0]] w1 (EV b w0 ks σ1 (.int .i64 0)) := fun ks w1 h => issue_kt (s := 0) (o := ⟨6, 0, 0, 0⟩) h (by decide) hi
theorem pp_kt {b : Nat} {w0 : World} {σ σ1 : St} (hr : runPrep 1000 σ 0 = some (σ1, true)) : ∀ ks w1, EKt b w0 ks σ w1 → Calls Tryz.prog 39 #[.pointer (some ⟨b, 0, none⟩), .int .i64 0] w1 (EV b w0 ks σ1 (.bool true)) := fun ks w1 h => prep_kt (s := 0) h (by decide) (by decide : (1000 : Nat) ≤ _) hr
theorem ss_kt {b : Nat} {w0 : World} {σ : St} (h8s : (σ.status 0).state = 2) (h8e : 0 < (σ.status 0).end_) : ∃ (x1 x2 x3 : Bool) (x4 x5 x6 x7 x8 : Int), (x7 == 0) = false ∧ (x7 = 0) = False ∧ ∀ ks w1, EKt b w0 ks σ w1 → Calls Tryz.prog 18 #[.pointer (some ⟨b, 0, none⟩), .int .i64 0] w1 (EV b w0 ks σ (.agg #[.bool x1, .bool x2, .bool x3, .int .i64 x4, .int .i64 x5, .int .i64 2, .int .u64 x6, .int .u64 x7, .int .i64 x8])) := by
  refine ⟨(σ.status 0).live, (σ.status 0).busy, (σ.status 0).waits, ((σ.status 0).id : Int), ((σ.status 0).level : Int), ((σ.status 0).begin_ : Int), ((σ.status 0).end_ : Int), ((σ.status 0).ops : Int), by simp; omega, by simp; omega, fun ks w1 h => ?_⟩
  have hh := status_kt (s := 0) h (by decide)
  unfold statusCs at hh
  rw [h8s] at hh
  exact hh
end Go.Proofs.YtdgombgcjeelpaaGreat.Em

namespace Go.Proofs.YtdgombgcjeelpaaGreat.Em
open Go.ChangeShapes Go.WideShapes Go.ChangeAt Go.RowKit En
set_option linter.unusedVariables false
set_option linter.unusedSimpArgs false
set_option maxRecDepth 100000
set_option maxHeartbeats 1600000

theorem dir_00 (level : Nat) (lv : Int) (hlv : (level : Int) = lv) (w : World) (σa σb σ : St) (ha : bondHead1 level false = some σa) (hb : bondHead2 0 false σa = some σb) (hc : bondHead3 σb = some σ) :
    Calls Tryz.prog 37 #[.int .i64 0, .int .i64 lv, .bool false] w fun e w' => ∃ b, e = .returned (.pointer (some ⟨b, 0, none⟩)) ∧ EKt b w [] σ w' := by
  obtain ⟨σ0, r0, r1, r2, σ1, i, h0, h1, h2⟩ := bondHead1_ok ha
  obtain ⟨σ4, σ5, r5, h4, h5, h5e, h6⟩ := bondHead2_ok hb
  obtain ⟨σ7, h7, h8, h8s, h8e⟩ := bondHead3_ok hc
  rw [show wayOf 0 = ⟨3, 3, 0, 20⟩ from rfl] at h4
  clear ha hb hc
  obtain rfl : σ1 = σa := by
    rcases h2 with ⟨_, e⟩ | ⟨e, _⟩
    · exact e
    · cases e
  obtain rfl : σ5 = σb := by
    rcases h6 with ⟨_, e⟩ | ⟨e, _⟩
    · exact e
    · cases e
  clear h2 h6
  go_enter Tryz.func37, Tryz.ntmps37
  go_upto_region 3 with (go_at_call 23; refine (nw_kt _).mono ?_; rintro e w1 ⟨b, rfl, q⟩; have T0 := Lib.hid q; clear q)
  have HW0 := Lib.hid (wh_kt (b := b) (w0 := w) h0)
  have HB0 : Hid (∀ ks w1, EKt b w ks σ0 w1 → Calls Tryz.prog 35 #[.pointer (some ⟨b, 0, none⟩), .int .i64 0, .int .i64 lv] w1 (EV b w ks σ1 (.tuple #[.int .i64 (i : Int), .int .i64 0]))) := fun ks w1 h => by
    rw [← hlv]
    exact begin_kt (s := 0) h (by decide) h1
  have HD1 : Hid (∀ ks w1, EKt b w ks σ1 w1 → Calls Tryz.prog 31 #[.pointer (some ⟨b, 0, none⟩), .int .i64 0, .agg #[.int .i64 3, .int .i64 3, .int .i64 0, .int .i64 20]] w1 (fun e w' => ∃ va vc, e = .returned (.tuple #[.agg #[.int .i64 0, .int .i64 (r5.value : Int), .slice va r5.pairs.length vc, .int .i64 (r5.over : Int), .int .i64 (r5.reason : Int)], .int .i64 0]) ∧ EKt b w (.row 2 (.slice va r5.pairs.length vc) (pairCs r5.pairs) :: ks) σ5 w')) := fun ks w1 h => by
    refine (do_kt (s := 0) h (o := ⟨3, 3, 0, 20⟩) (by decide) h4 (by decide : (1000 : Nat) ≤ _) h5).mono ?_
    rintro e w' ⟨va, vn, vc, rfl, hvn, q⟩
    rw [h5e]
    subst hvn
    exact ⟨va, vc, rfl, q⟩
  have HI := Lib.hid (is_kt (b := b) (w0 := w) h7)
  have HP := Lib.hid (pp_kt (b := b) (w0 := w) h8)
  obtain ⟨x1, x2, x3, x4, x5, x6, x7, x8, f1, f2, hs⟩ := ss_kt (b := b) (w0 := w) h8s h8e
  have HS := Lib.hid hs
  clear h0 h1 h4 h5 h5e h7 h8 h8s h8e hs
  go_wp2_with (first | (go_at_call 36; refine (HW0.out _ _ T0.out).mono ?_; rintro e w9 ⟨rb, ro, rc, rfl, q⟩; have T1 := Lib.hid q; clear q T0) | (go_at_call 35; refine (HB0.out _ _ (T1.out)).mono ?_; rintro e w9 ⟨rfl, q⟩; have T2 := Lib.hid q; clear q T1) | (go_at_call 31; refine (HD1.out _ _ (T2.out.alloc _ |>.alloc _)).mono ?_; rintro e w4 ⟨vb, vd, rfl, q⟩; have T4 := Lib.hid q; clear q T2) | (go_at_call 17; refine (HI.out _ _ (T4.out.alloc _)).mono ?_; rintro e w9 ⟨rfl, q⟩; have T6 := Lib.hid q; clear q T4) | (go_at_call 39; refine (HP.out _ _ (T6.out)).mono ?_; rintro e w9 ⟨rfl, q⟩; have T7 := Lib.hid q; clear q T6) | (go_at_call 18; refine (HS.out _ _ (T7.out)).mono ?_; rintro e w9 ⟨rfl, q⟩; have T8 := Lib.hid q; clear q T7))
  go_ret
  obtain ⟨A, e1, e2, e3, _⟩ := (T8.out.alloc _).ex
  exact ⟨b, rfl, A, e1, e2, e3, trivial⟩
theorem dir_01 (level : Nat) (lv : Int) (hlv : (level : Int) = lv) (w : World) (σa σb σ : St) (ha : bondHead1 level true = some σa) (hb : bondHead2 0 true σa = some σb) (hc : bondHead3 σb = some σ) :
    Calls Tryz.prog 37 #[.int .i64 0, .int .i64 lv, .bool true] w fun e w' => ∃ b, e = .returned (.pointer (some ⟨b, 0, none⟩)) ∧ EKt b w [] σ w' := by
  obtain ⟨σ0, r0, r1, r2, σ1, i, h0, h1, h2⟩ := bondHead1_ok ha
  obtain ⟨σ4, σ5, r5, h4, h5, h5e, h6⟩ := bondHead2_ok hb
  obtain ⟨σ7, h7, h8, h8s, h8e⟩ := bondHead3_ok hc
  rw [show wayOf 0 = ⟨3, 3, 0, 20⟩ from rfl] at h4
  clear ha hb hc
  obtain ⟨σ2, r3, g2, g3, g3v⟩ : ∃ σ2 r, issueOk σ1 0 ⟨1, 9, 0, 0⟩ = some σ2 ∧ runDo 1000 σ2 0 = some (σa, r, 0) ∧ r.value = 1 := by
    rcases h2 with ⟨e, _⟩ | ⟨_, e⟩
    · cases e
    · exact e
  obtain ⟨r6, r7, g6⟩ : ∃ r0 r1, runWhole 1000 σ5 6 1 [⟨3, 9, 0, 2⟩] = some (σb, [r0, r1], 0) := by
    rcases h6 with ⟨e, _⟩ | ⟨_, e⟩
    · cases e
    · exact e
  go_enter Tryz.func37, Tryz.ntmps37
  go_upto_region 3 with (go_at_call 23; refine (nw_kt _).mono ?_; rintro e w1 ⟨b, rfl, q⟩; have T0 := Lib.hid q; clear q)
  have HW0 := Lib.hid (wh_kt (b := b) (w0 := w) h0)
  have HB0 : Hid (∀ ks w1, EKt b w ks σ0 w1 → Calls Tryz.prog 35 #[.pointer (some ⟨b, 0, none⟩), .int .i64 0, .int .i64 lv] w1 (EV b w ks σ1 (.tuple #[.int .i64 (i : Int), .int .i64 0]))) := fun ks w1 h => by
    rw [← hlv]
    exact begin_kt (s := 0) h (by decide) h1
  have HD0 : Hid (∀ ks w1, EKt b w ks σ1 w1 → Calls Tryz.prog 31 #[.pointer (some ⟨b, 0, none⟩), .int .i64 0, .agg #[.int .i64 1, .int .i64 9, .int .i64 0, .int .i64 0]] w1 (fun e w' => ∃ va vc, e = .returned (.tuple #[.agg #[.int .i64 (r3.e : Int), .int .i64 1, .slice va r3.pairs.length vc, .int .i64 (r3.over : Int), .int .i64 (r3.reason : Int)], .int .i64 0]) ∧ EKt b w (.row 2 (.slice va r3.pairs.length vc) (pairCs r3.pairs) :: ks) σa w')) := fun ks w1 h => by
    refine (do_kt (s := 0) h (o := ⟨1, 9, 0, 0⟩) (by decide) g2 (by decide : (1000 : Nat) ≤ _) g3).mono ?_
    rintro e w' ⟨va, vn, vc, rfl, hvn, q⟩
    rw [g3v]
    subst hvn
    exact ⟨va, vc, rfl, q⟩
  have HD1 : Hid (∀ ks w1, EKt b w ks σa w1 → Calls Tryz.prog 31 #[.pointer (some ⟨b, 0, none⟩), .int .i64 0, .agg #[.int .i64 3, .int .i64 3, .int .i64 0, .int .i64 20]] w1 (fun e w' => ∃ va vc, e = .returned (.tuple #[.agg #[.int .i64 0, .int .i64 (r5.value : Int), .slice va r5.pairs.length vc, .int .i64 (r5.over : Int), .int .i64 (r5.reason : Int)], .int .i64 0]) ∧ EKt b w (.row 2 (.slice va r5.pairs.length vc) (pairCs r5.pairs) :: ks) σ5 w')) := fun ks w1 h => by
    refine (do_kt (s := 0) h (o := ⟨3, 3, 0, 20⟩) (by decide) h4 (by decide : (1000 : Nat) ≤ _) h5).mono ?_
    rintro e w' ⟨va, vn, vc, rfl, hvn, q⟩
    rw [h5e]
    subst hvn
    exact ⟨va, vc, rfl, q⟩
  have HW1 : Hid (∀ ks w1 g, g = w1.heap.size → EKt b w ks σ5 w1 → Calls Tryz.prog 36 #[.pointer (some ⟨b, 0, none⟩), .int .i64 6, .int .i64 1, .slice (some ⟨g, 0, none⟩) 1 1] (w1.alloc (.cells #[.int .i64 3, .int .i64 9, .int .i64 0, .int .i64 2] 31)) fun e w' => ∃ rb ro rc, e = .returned (.tuple #[.slice (some ⟨rb, ro, none⟩) 2 rc, .int .i64 0]) ∧ EKt b w ks σb w') := fun ks w1 g hg h => by
    subst hg
    refine (whole_kt h (ops := [⟨3, 9, 0, 2⟩]) (level := 1) (s := 6) (#[.int .i64 3, .int .i64 9, .int .i64 0, .int .i64 2]) 1 (by decide) (by decide : (1000 : Nat) ≤ _) g6 rfl rfl (by decide) (by first | assumption | simp)).mono ?_
    rintro e w' ⟨rb, ro, rc, rfl, q1, q2⟩

    exact ⟨rb, ro, rc, rfl, q1⟩
  have HI := Lib.hid (is_kt (b := b) (w0 := w) h7)
  have HP := Lib.hid (pp_kt (b := b) (w0 := w) h8)
  obtain ⟨x1, x2, x3, x4, x5, x6, x7, x8, f1, f2, hs⟩ := ss_kt (b := b) (w0 := w) h8s h8e
  have HS := Lib.hid hs
  clear h0 h1 h2 g2 g3 g3v h4 h5 h5e h6 g6 h7 h8 h8s h8e hs
  go_wp2_with (first | (go_at_call 36; refine (HW0.out _ _ T0.out).mono ?_; rintro e w9 ⟨rb, ro, rc, rfl, q⟩; have T1 := Lib.hid q; clear q T0) | (go_at_call 35; refine (HB0.out _ _ (T1.out)).mono ?_; rintro e w9 ⟨rfl, q⟩; have T2 := Lib.hid q; clear q T1) | (go_at_call 31; refine (HD0.out _ _ (T2.out)).mono ?_; rintro e w9 ⟨va, vc, rfl, q⟩; have T3 := Lib.hid q; clear q T2) | (go_at_call 31; refine (HD1.out _ _ (T3.out.alloc _ |>.alloc _ |>.alloc _)).mono ?_; rintro e w4 ⟨vb, vd, rfl, q⟩; have T4 := Lib.hid q; clear q T3) | (go_at_call 36; refine (HW1.out _ _ (w4.heap.size + 1) (by simp) (T4.out.alloc _)).mono ?_; rintro e w9 ⟨rb, ro, rc, rfl, q⟩; have T5 := Lib.hid q; clear q T4) | (go_at_call 17; refine (HI.out _ _ (T5.out)).mono ?_; rintro e w9 ⟨rfl, q⟩; have T6 := Lib.hid q; clear q T5) | (go_at_call 39; refine (HP.out _ _ (T6.out)).mono ?_; rintro e w9 ⟨rfl, q⟩; have T7 := Lib.hid q; clear q T6) | (go_at_call 18; refine (HS.out _ _ (T7.out)).mono ?_; rintro e w9 ⟨rfl, q⟩; have T8 := Lib.hid q; clear q T7))
  go_ret
  obtain ⟨A, e1, e2, e3, _⟩ := (T8.out.alloc _).ex
  exact ⟨b, rfl, A, e1, e2, e3, trivial⟩
end Go.Proofs.YtdgombgcjeelpaaGreat.Em

namespace Go.Proofs.YtdgombgcjeelpaaGreat.Em
open Go.ChangeShapes Go.WideShapes Go.ChangeAt Go.RowKit En
set_option linter.unusedVariables false
set_option linter.unusedSimpArgs false
set_option maxRecDepth 100000
set_option maxHeartbeats 1600000

theorem dir_10 (level : Nat) (lv : Int) (hlv : (level : Int) = lv) (w : World) (σa σb σ : St) (ha : bondHead1 level false = some σa) (hb : bondHead2 1 false σa = some σb) (hc : bondHead3 σb = some σ) :
    Calls Tryz.prog 37 #[.int .i64 1, .int .i64 lv, .bool false] w fun e w' => ∃ b, e = .returned (.pointer (some ⟨b, 0, none⟩)) ∧ EKt b w [] σ w' := by
  obtain ⟨σ0, r0, r1, r2, σ1, i, h0, h1, h2⟩ := bondHead1_ok ha
  obtain ⟨σ4, σ5, r5, h4, h5, h5e, h6⟩ := bondHead2_ok hb
  obtain ⟨σ7, h7, h8, h8s, h8e⟩ := bondHead3_ok hc
  rw [show wayOf 1 = ⟨4, 3, 0, 0⟩ from rfl] at h4
  clear ha hb hc
  obtain rfl : σ1 = σa := by
    rcases h2 with ⟨_, e⟩ | ⟨e, _⟩
    · exact e
    · cases e
  obtain rfl : σ5 = σb := by
    rcases h6 with ⟨_, e⟩ | ⟨e, _⟩
    · exact e
    · cases e
  clear h2 h6
  go_enter Tryz.func37, Tryz.ntmps37
  go_upto_region 3 with (go_at_call 23; refine (nw_kt _).mono ?_; rintro e w1 ⟨b, rfl, q⟩; have T0 := Lib.hid q; clear q)
  have HW0 := Lib.hid (wh_kt (b := b) (w0 := w) h0)
  have HB0 : Hid (∀ ks w1, EKt b w ks σ0 w1 → Calls Tryz.prog 35 #[.pointer (some ⟨b, 0, none⟩), .int .i64 0, .int .i64 lv] w1 (EV b w ks σ1 (.tuple #[.int .i64 (i : Int), .int .i64 0]))) := fun ks w1 h => by
    rw [← hlv]
    exact begin_kt (s := 0) h (by decide) h1
  have HD1 : Hid (∀ ks w1, EKt b w ks σ1 w1 → Calls Tryz.prog 31 #[.pointer (some ⟨b, 0, none⟩), .int .i64 0, .agg #[.int .i64 4, .int .i64 3, .int .i64 0, .int .i64 0]] w1 (fun e w' => ∃ va vc, e = .returned (.tuple #[.agg #[.int .i64 0, .int .i64 (r5.value : Int), .slice va r5.pairs.length vc, .int .i64 (r5.over : Int), .int .i64 (r5.reason : Int)], .int .i64 0]) ∧ EKt b w (.row 2 (.slice va r5.pairs.length vc) (pairCs r5.pairs) :: ks) σ5 w')) := fun ks w1 h => by
    refine (do_kt (s := 0) h (o := ⟨4, 3, 0, 0⟩) (by decide) h4 (by decide : (1000 : Nat) ≤ _) h5).mono ?_
    rintro e w' ⟨va, vn, vc, rfl, hvn, q⟩
    rw [h5e]
    subst hvn
    exact ⟨va, vc, rfl, q⟩
  have HI := Lib.hid (is_kt (b := b) (w0 := w) h7)
  have HP := Lib.hid (pp_kt (b := b) (w0 := w) h8)
  obtain ⟨x1, x2, x3, x4, x5, x6, x7, x8, f1, f2, hs⟩ := ss_kt (b := b) (w0 := w) h8s h8e
  have HS := Lib.hid hs
  clear h0 h1 h4 h5 h5e h7 h8 h8s h8e hs
  go_wp2_with (first | (go_at_call 36; refine (HW0.out _ _ T0.out).mono ?_; rintro e w9 ⟨rb, ro, rc, rfl, q⟩; have T1 := Lib.hid q; clear q T0) | (go_at_call 35; refine (HB0.out _ _ (T1.out)).mono ?_; rintro e w9 ⟨rfl, q⟩; have T2 := Lib.hid q; clear q T1) | (go_at_call 31; refine (HD1.out _ _ (T2.out.alloc _ |>.alloc _)).mono ?_; rintro e w4 ⟨vb, vd, rfl, q⟩; have T4 := Lib.hid q; clear q T2) | (go_at_call 17; refine (HI.out _ _ (T4.out.alloc _)).mono ?_; rintro e w9 ⟨rfl, q⟩; have T6 := Lib.hid q; clear q T4) | (go_at_call 39; refine (HP.out _ _ (T6.out)).mono ?_; rintro e w9 ⟨rfl, q⟩; have T7 := Lib.hid q; clear q T6) | (go_at_call 18; refine (HS.out _ _ (T7.out)).mono ?_; rintro e w9 ⟨rfl, q⟩; have T8 := Lib.hid q; clear q T7))
  go_ret
  obtain ⟨A, e1, e2, e3, _⟩ := (T8.out.alloc _).ex
  exact ⟨b, rfl, A, e1, e2, e3, trivial⟩
theorem dir_11 (level : Nat) (lv : Int) (hlv : (level : Int) = lv) (w : World) (σa σb σ : St) (ha : bondHead1 level true = some σa) (hb : bondHead2 1 true σa = some σb) (hc : bondHead3 σb = some σ) :
    Calls Tryz.prog 37 #[.int .i64 1, .int .i64 lv, .bool true] w fun e w' => ∃ b, e = .returned (.pointer (some ⟨b, 0, none⟩)) ∧ EKt b w [] σ w' := by
  obtain ⟨σ0, r0, r1, r2, σ1, i, h0, h1, h2⟩ := bondHead1_ok ha
  obtain ⟨σ4, σ5, r5, h4, h5, h5e, h6⟩ := bondHead2_ok hb
  obtain ⟨σ7, h7, h8, h8s, h8e⟩ := bondHead3_ok hc
  rw [show wayOf 1 = ⟨4, 3, 0, 0⟩ from rfl] at h4
  clear ha hb hc
  obtain ⟨σ2, r3, g2, g3, g3v⟩ : ∃ σ2 r, issueOk σ1 0 ⟨1, 9, 0, 0⟩ = some σ2 ∧ runDo 1000 σ2 0 = some (σa, r, 0) ∧ r.value = 1 := by
    rcases h2 with ⟨e, _⟩ | ⟨_, e⟩
    · cases e
    · exact e
  obtain ⟨r6, r7, g6⟩ : ∃ r0 r1, runWhole 1000 σ5 6 1 [⟨3, 9, 0, 2⟩] = some (σb, [r0, r1], 0) := by
    rcases h6 with ⟨e, _⟩ | ⟨_, e⟩
    · cases e
    · exact e
  go_enter Tryz.func37, Tryz.ntmps37
  go_upto_region 3 with (go_at_call 23; refine (nw_kt _).mono ?_; rintro e w1 ⟨b, rfl, q⟩; have T0 := Lib.hid q; clear q)
  have HW0 := Lib.hid (wh_kt (b := b) (w0 := w) h0)
  have HB0 : Hid (∀ ks w1, EKt b w ks σ0 w1 → Calls Tryz.prog 35 #[.pointer (some ⟨b, 0, none⟩), .int .i64 0, .int .i64 lv] w1 (EV b w ks σ1 (.tuple #[.int .i64 (i : Int), .int .i64 0]))) := fun ks w1 h => by
    rw [← hlv]
    exact begin_kt (s := 0) h (by decide) h1
  have HD0 : Hid (∀ ks w1, EKt b w ks σ1 w1 → Calls Tryz.prog 31 #[.pointer (some ⟨b, 0, none⟩), .int .i64 0, .agg #[.int .i64 1, .int .i64 9, .int .i64 0, .int .i64 0]] w1 (fun e w' => ∃ va vc, e = .returned (.tuple #[.agg #[.int .i64 (r3.e : Int), .int .i64 1, .slice va r3.pairs.length vc, .int .i64 (r3.over : Int), .int .i64 (r3.reason : Int)], .int .i64 0]) ∧ EKt b w (.row 2 (.slice va r3.pairs.length vc) (pairCs r3.pairs) :: ks) σa w')) := fun ks w1 h => by
    refine (do_kt (s := 0) h (o := ⟨1, 9, 0, 0⟩) (by decide) g2 (by decide : (1000 : Nat) ≤ _) g3).mono ?_
    rintro e w' ⟨va, vn, vc, rfl, hvn, q⟩
    rw [g3v]
    subst hvn
    exact ⟨va, vc, rfl, q⟩
  have HD1 : Hid (∀ ks w1, EKt b w ks σa w1 → Calls Tryz.prog 31 #[.pointer (some ⟨b, 0, none⟩), .int .i64 0, .agg #[.int .i64 4, .int .i64 3, .int .i64 0, .int .i64 0]] w1 (fun e w' => ∃ va vc, e = .returned (.tuple #[.agg #[.int .i64 0, .int .i64 (r5.value : Int), .slice va r5.pairs.length vc, .int .i64 (r5.over : Int), .int .i64 (r5.reason : Int)], .int .i64 0]) ∧ EKt b w (.row 2 (.slice va r5.pairs.length vc) (pairCs r5.pairs) :: ks) σ5 w')) := fun ks w1 h => by
    refine (do_kt (s := 0) h (o := ⟨4, 3, 0, 0⟩) (by decide) h4 (by decide : (1000 : Nat) ≤ _) h5).mono ?_
    rintro e w' ⟨va, vn, vc, rfl, hvn, q⟩
    rw [h5e]
    subst hvn
    exact ⟨va, vc, rfl, q⟩
  have HW1 : Hid (∀ ks w1 g, g = w1.heap.size → EKt b w ks σ5 w1 → Calls Tryz.prog 36 #[.pointer (some ⟨b, 0, none⟩), .int .i64 6, .int .i64 1, .slice (some ⟨g, 0, none⟩) 1 1] (w1.alloc (.cells #[.int .i64 3, .int .i64 9, .int .i64 0, .int .i64 2] 31)) fun e w' => ∃ rb ro rc, e = .returned (.tuple #[.slice (some ⟨rb, ro, none⟩) 2 rc, .int .i64 0]) ∧ EKt b w ks σb w') := fun ks w1 g hg h => by
    subst hg
    refine (whole_kt h (ops := [⟨3, 9, 0, 2⟩]) (level := 1) (s := 6) (#[.int .i64 3, .int .i64 9, .int .i64 0, .int .i64 2]) 1 (by decide) (by decide : (1000 : Nat) ≤ _) g6 rfl rfl (by decide) (by first | assumption | simp)).mono ?_
    rintro e w' ⟨rb, ro, rc, rfl, q1, q2⟩

    exact ⟨rb, ro, rc, rfl, q1⟩
  have HI := Lib.hid (is_kt (b := b) (w0 := w) h7)
  have HP := Lib.hid (pp_kt (b := b) (w0 := w) h8)
  obtain ⟨x1, x2, x3, x4, x5, x6, x7, x8, f1, f2, hs⟩ := ss_kt (b := b) (w0 := w) h8s h8e
  have HS := Lib.hid hs
  clear h0 h1 h2 g2 g3 g3v h4 h5 h5e h6 g6 h7 h8 h8s h8e hs
  go_wp2_with (first | (go_at_call 36; refine (HW0.out _ _ T0.out).mono ?_; rintro e w9 ⟨rb, ro, rc, rfl, q⟩; have T1 := Lib.hid q; clear q T0) | (go_at_call 35; refine (HB0.out _ _ (T1.out)).mono ?_; rintro e w9 ⟨rfl, q⟩; have T2 := Lib.hid q; clear q T1) | (go_at_call 31; refine (HD0.out _ _ (T2.out)).mono ?_; rintro e w9 ⟨va, vc, rfl, q⟩; have T3 := Lib.hid q; clear q T2) | (go_at_call 31; refine (HD1.out _ _ (T3.out.alloc _ |>.alloc _ |>.alloc _)).mono ?_; rintro e w4 ⟨vb, vd, rfl, q⟩; have T4 := Lib.hid q; clear q T3) | (go_at_call 36; refine (HW1.out _ _ (w4.heap.size + 1) (by simp) (T4.out.alloc _)).mono ?_; rintro e w9 ⟨rb, ro, rc, rfl, q⟩; have T5 := Lib.hid q; clear q T4) | (go_at_call 17; refine (HI.out _ _ (T5.out)).mono ?_; rintro e w9 ⟨rfl, q⟩; have T6 := Lib.hid q; clear q T5) | (go_at_call 39; refine (HP.out _ _ (T6.out)).mono ?_; rintro e w9 ⟨rfl, q⟩; have T7 := Lib.hid q; clear q T6) | (go_at_call 18; refine (HS.out _ _ (T7.out)).mono ?_; rintro e w9 ⟨rfl, q⟩; have T8 := Lib.hid q; clear q T7))
  go_ret
  obtain ⟨A, e1, e2, e3, _⟩ := (T8.out.alloc _).ex
  exact ⟨b, rfl, A, e1, e2, e3, trivial⟩
end Go.Proofs.YtdgombgcjeelpaaGreat.Em

namespace Go.Proofs.YtdgombgcjeelpaaGreat.Em
open Go.ChangeShapes Go.WideShapes Go.ChangeAt Go.RowKit En
set_option linter.unusedVariables false
set_option linter.unusedSimpArgs false
set_option maxRecDepth 100000
set_option maxHeartbeats 1600000

theorem dir_20 (level : Nat) (lv : Int) (hlv : (level : Int) = lv) (w : World) (σa σb σ : St) (ha : bondHead1 level false = some σa) (hb : bondHead2 2 false σa = some σb) (hc : bondHead3 σb = some σ) :
    Calls Tryz.prog 37 #[.int .i64 2, .int .i64 lv, .bool false] w fun e w' => ∃ b, e = .returned (.pointer (some ⟨b, 0, none⟩)) ∧ EKt b w [] σ w' := by
  obtain ⟨σ0, r0, r1, r2, σ1, i, h0, h1, h2⟩ := bondHead1_ok ha
  obtain ⟨σ4, σ5, r5, h4, h5, h5e, h6⟩ := bondHead2_ok hb
  obtain ⟨σ7, h7, h8, h8s, h8e⟩ := bondHead3_ok hc
  rw [show wayOf 2 = ⟨2, 4, 0, 40⟩ from rfl] at h4
  clear ha hb hc
  obtain rfl : σ1 = σa := by
    rcases h2 with ⟨_, e⟩ | ⟨e, _⟩
    · exact e
    · cases e
  obtain rfl : σ5 = σb := by
    rcases h6 with ⟨_, e⟩ | ⟨e, _⟩
    · exact e
    · cases e
  clear h2 h6
  go_enter Tryz.func37, Tryz.ntmps37
  go_upto_region 3 with (go_at_call 23; refine (nw_kt _).mono ?_; rintro e w1 ⟨b, rfl, q⟩; have T0 := Lib.hid q; clear q)
  have HW0 := Lib.hid (wh_kt (b := b) (w0 := w) h0)
  have HB0 : Hid (∀ ks w1, EKt b w ks σ0 w1 → Calls Tryz.prog 35 #[.pointer (some ⟨b, 0, none⟩), .int .i64 0, .int .i64 lv] w1 (EV b w ks σ1 (.tuple #[.int .i64 (i : Int), .int .i64 0]))) := fun ks w1 h => by
    rw [← hlv]
    exact begin_kt (s := 0) h (by decide) h1
  have HD1 : Hid (∀ ks w1, EKt b w ks σ1 w1 → Calls Tryz.prog 31 #[.pointer (some ⟨b, 0, none⟩), .int .i64 0, .agg #[.int .i64 2, .int .i64 4, .int .i64 0, .int .i64 40]] w1 (fun e w' => ∃ va vc, e = .returned (.tuple #[.agg #[.int .i64 0, .int .i64 (r5.value : Int), .slice va r5.pairs.length vc, .int .i64 (r5.over : Int), .int .i64 (r5.reason : Int)], .int .i64 0]) ∧ EKt b w (.row 2 (.slice va r5.pairs.length vc) (pairCs r5.pairs) :: ks) σ5 w')) := fun ks w1 h => by
    refine (do_kt (s := 0) h (o := ⟨2, 4, 0, 40⟩) (by decide) h4 (by decide : (1000 : Nat) ≤ _) h5).mono ?_
    rintro e w' ⟨va, vn, vc, rfl, hvn, q⟩
    rw [h5e]
    subst hvn
    exact ⟨va, vc, rfl, q⟩
  have HI := Lib.hid (is_kt (b := b) (w0 := w) h7)
  have HP := Lib.hid (pp_kt (b := b) (w0 := w) h8)
  obtain ⟨x1, x2, x3, x4, x5, x6, x7, x8, f1, f2, hs⟩ := ss_kt (b := b) (w0 := w) h8s h8e
  have HS := Lib.hid hs
  clear h0 h1 h4 h5 h5e h7 h8 h8s h8e hs
  go_wp2_with (first | (go_at_call 36; refine (HW0.out _ _ T0.out).mono ?_; rintro e w9 ⟨rb, ro, rc, rfl, q⟩; have T1 := Lib.hid q; clear q T0) | (go_at_call 35; refine (HB0.out _ _ (T1.out)).mono ?_; rintro e w9 ⟨rfl, q⟩; have T2 := Lib.hid q; clear q T1) | (go_at_call 31; refine (HD1.out _ _ (T2.out.alloc _ |>.alloc _)).mono ?_; rintro e w4 ⟨vb, vd, rfl, q⟩; have T4 := Lib.hid q; clear q T2) | (go_at_call 17; refine (HI.out _ _ (T4.out.alloc _)).mono ?_; rintro e w9 ⟨rfl, q⟩; have T6 := Lib.hid q; clear q T4) | (go_at_call 39; refine (HP.out _ _ (T6.out)).mono ?_; rintro e w9 ⟨rfl, q⟩; have T7 := Lib.hid q; clear q T6) | (go_at_call 18; refine (HS.out _ _ (T7.out)).mono ?_; rintro e w9 ⟨rfl, q⟩; have T8 := Lib.hid q; clear q T7))
  go_ret
  obtain ⟨A, e1, e2, e3, _⟩ := (T8.out.alloc _).ex
  exact ⟨b, rfl, A, e1, e2, e3, trivial⟩
theorem dir_21 (level : Nat) (lv : Int) (hlv : (level : Int) = lv) (w : World) (σa σb σ : St) (ha : bondHead1 level true = some σa) (hb : bondHead2 2 true σa = some σb) (hc : bondHead3 σb = some σ) :
    Calls Tryz.prog 37 #[.int .i64 2, .int .i64 lv, .bool true] w fun e w' => ∃ b, e = .returned (.pointer (some ⟨b, 0, none⟩)) ∧ EKt b w [] σ w' := by
  obtain ⟨σ0, r0, r1, r2, σ1, i, h0, h1, h2⟩ := bondHead1_ok ha
  obtain ⟨σ4, σ5, r5, h4, h5, h5e, h6⟩ := bondHead2_ok hb
  obtain ⟨σ7, h7, h8, h8s, h8e⟩ := bondHead3_ok hc
  rw [show wayOf 2 = ⟨2, 4, 0, 40⟩ from rfl] at h4
  clear ha hb hc
  obtain ⟨σ2, r3, g2, g3, g3v⟩ : ∃ σ2 r, issueOk σ1 0 ⟨1, 9, 0, 0⟩ = some σ2 ∧ runDo 1000 σ2 0 = some (σa, r, 0) ∧ r.value = 1 := by
    rcases h2 with ⟨e, _⟩ | ⟨_, e⟩
    · cases e
    · exact e
  obtain ⟨r6, r7, g6⟩ : ∃ r0 r1, runWhole 1000 σ5 6 1 [⟨3, 9, 0, 2⟩] = some (σb, [r0, r1], 0) := by
    rcases h6 with ⟨e, _⟩ | ⟨_, e⟩
    · cases e
    · exact e
  go_enter Tryz.func37, Tryz.ntmps37
  go_upto_region 3 with (go_at_call 23; refine (nw_kt _).mono ?_; rintro e w1 ⟨b, rfl, q⟩; have T0 := Lib.hid q; clear q)
  have HW0 := Lib.hid (wh_kt (b := b) (w0 := w) h0)
  have HB0 : Hid (∀ ks w1, EKt b w ks σ0 w1 → Calls Tryz.prog 35 #[.pointer (some ⟨b, 0, none⟩), .int .i64 0, .int .i64 lv] w1 (EV b w ks σ1 (.tuple #[.int .i64 (i : Int), .int .i64 0]))) := fun ks w1 h => by
    rw [← hlv]
    exact begin_kt (s := 0) h (by decide) h1
  have HD0 : Hid (∀ ks w1, EKt b w ks σ1 w1 → Calls Tryz.prog 31 #[.pointer (some ⟨b, 0, none⟩), .int .i64 0, .agg #[.int .i64 1, .int .i64 9, .int .i64 0, .int .i64 0]] w1 (fun e w' => ∃ va vc, e = .returned (.tuple #[.agg #[.int .i64 (r3.e : Int), .int .i64 1, .slice va r3.pairs.length vc, .int .i64 (r3.over : Int), .int .i64 (r3.reason : Int)], .int .i64 0]) ∧ EKt b w (.row 2 (.slice va r3.pairs.length vc) (pairCs r3.pairs) :: ks) σa w')) := fun ks w1 h => by
    refine (do_kt (s := 0) h (o := ⟨1, 9, 0, 0⟩) (by decide) g2 (by decide : (1000 : Nat) ≤ _) g3).mono ?_
    rintro e w' ⟨va, vn, vc, rfl, hvn, q⟩
    rw [g3v]
    subst hvn
    exact ⟨va, vc, rfl, q⟩
  have HD1 : Hid (∀ ks w1, EKt b w ks σa w1 → Calls Tryz.prog 31 #[.pointer (some ⟨b, 0, none⟩), .int .i64 0, .agg #[.int .i64 2, .int .i64 4, .int .i64 0, .int .i64 40]] w1 (fun e w' => ∃ va vc, e = .returned (.tuple #[.agg #[.int .i64 0, .int .i64 (r5.value : Int), .slice va r5.pairs.length vc, .int .i64 (r5.over : Int), .int .i64 (r5.reason : Int)], .int .i64 0]) ∧ EKt b w (.row 2 (.slice va r5.pairs.length vc) (pairCs r5.pairs) :: ks) σ5 w')) := fun ks w1 h => by
    refine (do_kt (s := 0) h (o := ⟨2, 4, 0, 40⟩) (by decide) h4 (by decide : (1000 : Nat) ≤ _) h5).mono ?_
    rintro e w' ⟨va, vn, vc, rfl, hvn, q⟩
    rw [h5e]
    subst hvn
    exact ⟨va, vc, rfl, q⟩
  have HW1 : Hid (∀ ks w1 g, g = w1.heap.size → EKt b w ks σ5 w1 → Calls Tryz.prog 36 #[.pointer (some ⟨b, 0, none⟩), .int .i64 6, .int .i64 1, .slice (some ⟨g, 0, none⟩) 1 1] (w1.alloc (.cells #[.int .i64 3, .int .i64 9, .int .i64 0, .int .i64 2] 31)) fun e w' => ∃ rb ro rc, e = .returned (.tuple #[.slice (some ⟨rb, ro, none⟩) 2 rc, .int .i64 0]) ∧ EKt b w ks σb w') := fun ks w1 g hg h => by
    subst hg
    refine (whole_kt h (ops := [⟨3, 9, 0, 2⟩]) (level := 1) (s := 6) (#[.int .i64 3, .int .i64 9, .int .i64 0, .int .i64 2]) 1 (by decide) (by decide : (1000 : Nat) ≤ _) g6 rfl rfl (by decide) (by first | assumption | simp)).mono ?_
    rintro e w' ⟨rb, ro, rc, rfl, q1, q2⟩

    exact ⟨rb, ro, rc, rfl, q1⟩
  have HI := Lib.hid (is_kt (b := b) (w0 := w) h7)
  have HP := Lib.hid (pp_kt (b := b) (w0 := w) h8)
  obtain ⟨x1, x2, x3, x4, x5, x6, x7, x8, f1, f2, hs⟩ := ss_kt (b := b) (w0 := w) h8s h8e
  have HS := Lib.hid hs
  clear h0 h1 h2 g2 g3 g3v h4 h5 h5e h6 g6 h7 h8 h8s h8e hs
  go_wp2_with (first | (go_at_call 36; refine (HW0.out _ _ T0.out).mono ?_; rintro e w9 ⟨rb, ro, rc, rfl, q⟩; have T1 := Lib.hid q; clear q T0) | (go_at_call 35; refine (HB0.out _ _ (T1.out)).mono ?_; rintro e w9 ⟨rfl, q⟩; have T2 := Lib.hid q; clear q T1) | (go_at_call 31; refine (HD0.out _ _ (T2.out)).mono ?_; rintro e w9 ⟨va, vc, rfl, q⟩; have T3 := Lib.hid q; clear q T2) | (go_at_call 31; refine (HD1.out _ _ (T3.out.alloc _ |>.alloc _ |>.alloc _)).mono ?_; rintro e w4 ⟨vb, vd, rfl, q⟩; have T4 := Lib.hid q; clear q T3) | (go_at_call 36; refine (HW1.out _ _ (w4.heap.size + 1) (by simp) (T4.out.alloc _)).mono ?_; rintro e w9 ⟨rb, ro, rc, rfl, q⟩; have T5 := Lib.hid q; clear q T4) | (go_at_call 17; refine (HI.out _ _ (T5.out)).mono ?_; rintro e w9 ⟨rfl, q⟩; have T6 := Lib.hid q; clear q T5) | (go_at_call 39; refine (HP.out _ _ (T6.out)).mono ?_; rintro e w9 ⟨rfl, q⟩; have T7 := Lib.hid q; clear q T6) | (go_at_call 18; refine (HS.out _ _ (T7.out)).mono ?_; rintro e w9 ⟨rfl, q⟩; have T8 := Lib.hid q; clear q T7))
  go_ret
  obtain ⟨A, e1, e2, e3, _⟩ := (T8.out.alloc _).ex
  exact ⟨b, rfl, A, e1, e2, e3, trivial⟩
end Go.Proofs.YtdgombgcjeelpaaGreat.Em

namespace Go.Proofs.YtdgombgcjeelpaaGreat.Em
open Go.ChangeShapes Go.WideShapes Go.ChangeAt Go.RowKit En
set_option linter.unusedVariables false
set_option linter.unusedSimpArgs false
set_option maxRecDepth 100000
set_option maxHeartbeats 1600000

end Go.Proofs.YtdgombgcjeelpaaGreat.Em

namespace Go.Proofs.YtdgombgcjeelpaaGreat.Em
open Go.ChangeShapes Go.WideShapes Go.ChangeAt Go.RowKit En
set_option linter.unusedVariables false
set_option linter.unusedSimpArgs false
set_option maxRecDepth 100000
set_option maxHeartbeats 1600000

theorem EKt.drop {b : Nat} {w0 w : World} {σ : St} {ks : List Kept} (h : EKt b w0 ks σ w) : EKt b w0 [] σ w := let ⟨A, e, l, g, _⟩ := h.ex; ⟨A, e, l, g, trivial⟩
theorem EKt.allocg {b : Nat} {w0 w : World} {σ : St} {ks : List Kept} (h : EKt b w0 ks σ w) (g : Nat) (hg : g = w.heap.size) (o : Obj) : EKt b w0 (.obj g o :: ks) σ (w.alloc o) := by
  subst hg
  exact h.alloc o
theorem row_of_obj {w : World} {g : Nat} {T : TypeId} (xs : List Value) (n size : Nat) (h : w.heap[g]? = some (.cells xs.toArray T)) (hl : xs.length = n * size) (hn : n ≤ 1000000) : Ow.Row w 0 size (.slice (some ⟨g, 0, none⟩) n n) xs := by
  refine ⟨_, n, n, rfl, hl, Nat.le_refl _, by unfold maxLen; omega, .inr ⟨g, 0, rfl, Nat.zero_le _, lt_of h, fun j hj => ?_⟩⟩
  rw [Nat.zero_add]
  have hj' : j < xs.length := by omega
  rw [List.getElem?_eq_getElem hj']
  simp [World.cell?, h, hj']
theorem row_nil (w : World) (size : Nat) : Ow.Row w 0 size (.slice none 0 0) [] := ⟨none, 0, 0, rfl, by simp, Nat.le_refl _, by unfold maxLen; omega, .inl rfl⟩
/-- The engine lies at a block, and a variable of a law's own at another. -/
structure ETm (b : Nat) (w0 : World) (g : Nat) (o : Obj) (σ : St) (w : World) : Prop where
  ex : ∃ A : Book, A.be = b ∧ Live A σ w ∧ Grow (fun _ => none) w0 A.L w ∧ A.L g = some .tmp ∧ w.heap[g]? = some o ∧ w0.heap.size ≤ g
theorem EKt.tm {b : Nat} {w0 w : World} {σ : St} {ks : List Kept} (h : EKt b w0 ks σ w) (o : Obj) : ETm b w0 w.heap.size o σ (w.alloc o) := by
  obtain ⟨A, e, l, g, _⟩ := h.ex
  obtain ⟨_, g1, t1, t2⟩ := l.rep.newTmp o
  exact ⟨A.tmp w.heap.size, e, l.newTmp o, g.trans g1, t1, t2, g.size⟩
theorem ETm.below {b : Nat} {w0 w w' : World} {g : Nat} {o : Obj} {σ : St} (h : ETm b w0 g o σ w) (hb : Below w.heap.size w w') : ETm b w0 g o σ w' := by
  obtain ⟨A, e, l, gr, t1, t2, t3⟩ := h.ex
  exact ⟨A, e, l.below hb, gr.trans (Grow.below hb), t1, (hb.block g (lt_of t2)).trans t2, t3⟩
theorem ETm.alloc {b : Nat} {w0 w : World} {g : Nat} {o : Obj} {σ : St} (h : ETm b w0 g o σ w) (o' : Obj) : ETm b w0 g o σ (w.alloc o') := h.below ((Below.refl _ w).alloc (Nat.le_refl _) o')
theorem ETm.obj {b : Nat} {w0 w : World} {g : Nat} {o : Obj} {σ : St} (h : ETm b w0 g o σ w) : w.heap[g]? = some o := let ⟨_, _, _, _, _, t, _⟩ := h.ex; t
theorem ETm.at {b : Nat} {w0 w : World} {g : Nat} {o : Obj} {σ : St} (h : ETm b w0 g o σ w) : EAt b w0 σ w := let ⟨A, e, l, gr, _⟩ := h.ex; ⟨A, e, l, gr⟩
theorem ETm.put {b : Nat} {w0 w w' : World} {g : Nat} {o o' : Obj} {σ : St} (h : ETm b w0 g o σ w) (hb : But g w w') (ho : w'.heap[g]? = some o') : ETm b w0 g o' σ w' := by
  obtain ⟨A, e, l, gr, t1, t2, t3⟩ := h.ex
  exact ⟨A, e, l.but t1 hb, gr.but t3 hb, t1, ho, t3⟩
theorem stLive_tm {b : Nat} {w0 w : World} {g : Nat} {o : Obj} {σ : St} (h : ETm b w0 g o σ w) (s : Nat) (hs : s < 8) :
    Calls Tryz.prog 18 #[.pointer (some ⟨b, 0, none⟩), .int .i64 (s : Int)] w fun e w' => ∃ y1 y2 y3 y4 y5 y6 y7 y8, e = .returned (.agg #[.bool (σ.status s).live, y1, y2, y3, y4, y5, y6, y7, y8]) ∧ ETm b w0 g o σ w' := by
  obtain ⟨A, rfl, hL, gr, t1, t2, t3⟩ := h.ex
  refine (status_any hL s hs).mono ?_
  rintro e w' ⟨rfl, hb⟩
  exact ⟨_, _, _, _, _, _, _, _, rfl, ETm.below ⟨A, rfl, hL, gr, t1, t2, t3⟩ hb⟩
theorem step_tm {b : Nat} {w0 w : World} {g : Nat} {o : Obj} {σ σ1 : St} (h : ETm b w0 g o σ w) {s kd : Nat} {r : Res} (hs : s < 8) (hr : oneStep σ s = some (σ1, kd, r)) :
    Calls Tryz.prog 19 #[.pointer (some ⟨b, 0, none⟩), .int .i64 (s : Int)] w fun e w' => ∃ va vn vc, e = .returned (.tuple #[.agg #[.int .i64 (kd : Int), .int .i64 (r.e : Int), .int .i64 (r.value : Int), .slice va vn vc, .int .i64 (r.over : Int), .int .i64 (r.reason : Int)], .int .i64 0]) ∧ ETm b w0 g o σ1 w' := by
  obtain ⟨A, rfl, hL, gr, t1, t2, t3⟩ := h.ex
  refine (step_calls hL hs hr).mono ?_
  rintro e w' ⟨A', vp, rfl, hf, hL', g', e'⟩
  obtain ⟨va, vn, vc, rfl⟩ := frow_form hf
  obtain ⟨t4, t5⟩ := tmp_grow ⟨t1, t2⟩ g'
  exact ⟨va, vn, vc, rfl, A', e', hL', gr.trans g', t4, t5, t3⟩
theorem pairs_tm {b : Nat} {w0 w : World} {g : Nat} {o : Obj} {σ : St} (h : ETm b w0 g o σ w) (hok : okPairs σ = true) :
    Calls Tryz.prog 29 #[.pointer (some ⟨b, 0, none⟩)] w fun e w' => ∃ av cap, e = .returned (.slice av σ.pairs.length cap) ∧ Ow.Row w' 0 2 (.slice av σ.pairs.length cap) (pairCs σ.pairs) ∧ ETm b w0 g o σ w' := by
  obtain ⟨A, rfl, hL, gr, t1, t2, t3⟩ := h.ex
  refine (pairs_any hL.rep hok).mono ?_
  rintro e w' ⟨av, cap, rfl, ho, hb⟩
  obtain ⟨a, n, c, k1, k2, k3, k4, k5⟩ := own_row ho
  refine ⟨av, cap, rfl, ⟨a, n, c, k1, k2, k3, k4, ?_⟩, ETm.below ⟨A, rfl, hL, gr, t1, t2, t3⟩ hb⟩
  rcases k5 with k5 | ⟨g', off, e1, e2, e3⟩
  · exact .inl k5
  · exact .inr ⟨g', off, e1, Nat.zero_le _, e3⟩
end Go.Proofs.YtdgombgcjeelpaaGreat.Em

namespace Go.Proofs.YtdgombgcjeelpaaGreat.Em
open Go.ChangeShapes Go.WideShapes Go.ChangeAt Go.RowKit En
set_option linter.unusedVariables false
set_option linter.unusedSimpArgs false
set_option maxRecDepth 100000
set_option maxHeartbeats 1600000

theorem bondRun_ok {how level reader : Nat} {scan poison : Bool} (h : bondRun how level reader scan poison = true) : ∃ σ1 σ2 σ3 σ4, bondHead1 level poison = some σ1 ∧ bondHead2 how poison σ1 = some σ2 ∧ bondHead3 σ2 = some σ3 ∧ bondRead how reader scan σ3 = some σ4 ∧ bondEnd how poison σ4 = true := by
  unfold bondRun at h
  obtain ⟨σ1, h1, h⟩ := thn_ok h
  obtain ⟨σ2, h2, h⟩ := thn_ok h
  obtain ⟨σ3, h3, h⟩ := thn_ok h
  obtain ⟨σ4, h4, h⟩ := thn_ok h
  exact ⟨σ1, σ2, σ3, σ4, h1, h2, h3, h4, h⟩
theorem bondRead_ok {how reader : Nat} {scan : Bool} {σ σ' : St} (h : bondRead how reader scan σ = some σ') : ∃ σ1 i σ2, beginOk σ 1 reader = some (σ1, i) ∧ issueOk σ1 1 (readOf how scan) = some σ2 ∧ runDo 1000 σ2 1 = some (σ', wantOf how scan, 0) := by
  unfold bondRead at h
  split at h
  · rename_i σ1 i h1
    split at h
    · rename_i σ2 h2
      split at h
      · rename_i σ3 r h3
        split at h
        · rename_i hr
          obtain rfl := Option.some.inj h
          exact ⟨σ1, i, σ2, h1, h2, by rw [← hr]; exact h3⟩
        · cases h
      · cases h
    · cases h
  · cases h
theorem bondEnd_ok {how : Nat} {poison : Bool} {σ : St} (h : bondEnd how poison σ = true) : ∃ σ1 σ2 r σ3 σ4 k4 r4 σ5 k5 r5, issueOk σ 1 ⟨6, 0, 0, 0⟩ = some σ1 ∧ runDo 1000 σ1 1 = some (σ2, r, 18) ∧ (σ2.status 1).busy = true ∧ runSome 1 10 σ2 = some σ3 ∧ runLast 0 1000 σ3 0 {} = some (σ4, k4, r4) ∧ runLast 1 1000 σ4 0 {} = some (σ5, k5, r5) ∧ okPairs σ5 = true ∧ (if poison = true then r5.over = 4 ∧ r5.reason = 4 ∧ ∃ ps, σ5.pairs = (3, 10) :: ps ∧ σ5.pairs.length = 2 else r5.over = 3 ∧ σ5.pairs.length = (if how = 0 then 2 else if how = 1 then 1 else 3)) := by
  unfold bondEnd at h
  obtain ⟨σ1, h1, h⟩ := thn_ok h
  obtain ⟨⟨σ2, r, x⟩, h2, h⟩ := thn_ok h
  obtain ⟨g2, h⟩ := and_ok h
  obtain ⟨σ3, h3, h⟩ := thn_ok h
  obtain ⟨⟨σ4, k4, r4⟩, h4, h⟩ := thn_ok h
  obtain ⟨⟨σ5, k5, r5⟩, h5, h⟩ := thn_ok h
  obtain ⟨g5, hZ⟩ := and_ok h
  simp only [Bool.and_eq_true, beq_iff_eq] at g2
  obtain ⟨rfl, g2⟩ := g2
  refine ⟨σ1, σ2, r, σ3, σ4, k4, r4, σ5, k5, r5, h1, h2, g2, h3, h4, h5, g5, ?_⟩
  cases poison with
  | false =>
    simp only [Bool.false_eq_true, if_false, Bool.and_eq_true, beq_iff_eq] at hZ ⊢
    exact hZ
  | true =>
    simp only [if_true, Bool.and_eq_true, beq_iff_eq] at hZ ⊢
    obtain ⟨⟨⟨a1, a2⟩, a3⟩, a4⟩ := hZ
    refine ⟨a1, a2, ?_⟩
    cases hp : σ5.pairs with
    | nil => rw [hp] at a4; cases a4
    | cons p ps =>
      rw [hp] at a4 a3
      obtain rfl : p = (3, 10) := by simpa using a4
      exact ⟨ps, rfl, a3⟩
theorem runLast_ok {s f kd kd2 : Nat} {σ σ2 : St} {r r2 : Res} (h : runLast s (f + 1) σ kd r = some (σ2, kd2, r2)) : ((σ.status s).live = false ∧ σ = σ2 ∧ kd = kd2 ∧ r = r2) ∨ ((σ.status s).live = true ∧ ∃ σ' kd' r', oneStep σ s = some (σ', kd', r') ∧ runLast s f σ' kd' r' = some (σ2, kd2, r2)) := by
  unfold runLast at h
  split at h
  · rename_i hl
    simp only [Option.some.injEq, Prod.mk.injEq] at h
    exact .inl ⟨hl, h.1, h.2.1, h.2.2⟩
  · rename_i hl
    split at h
    · rename_i σ' kd' r' hs
      exact .inr ⟨by simpa using hl, σ', kd', r', hs, h⟩
    · cases h
theorem cells5 {w : World} {g : Nat} {a0 a1 a2 a3 a4 : Value} {T : TypeId} (h : w.heap[g]? = some (.cells #[a0, a1, a2, a3, a4] T)) (o : Obj) : (w.alloc o).cell? ⟨g, 0, none⟩ = some a0 ∧ (w.alloc o).cell? ⟨g, 1, none⟩ = some a1 ∧ (w.alloc o).cell? ⟨g, 2, none⟩ = some a2 ∧ (w.alloc o).cell? ⟨g, 3, none⟩ = some a3 ∧ (w.alloc o).cell? ⟨g, 4, none⟩ = some a4 := by
  refine ⟨?_, ?_, ?_, ?_, ?_⟩ <;> (rw [cell_alloc_old _ _ (lt_of h)]; simp [World.cell?, h])
theorem st_kt {b : Nat} {w0 : World} {σ : St} {l : Bool} (s : Nat) (s' : Int) (hs : ((s : Nat) : Int) = s') (h8 : s < 8) (hl : (σ.status s).live = l) : ∀ w1, EKt b w0 [] σ w1 → Calls Tryz.prog 18 #[.pointer (some ⟨b, 0, none⟩), .int .i64 s'] w1 fun e w' => ∃ y1 y2 y3 y4 y5 y6 y7 y8, e = .returned (.agg #[.bool l, y1, y2, y3, y4, y5, y6, y7, y8]) ∧ EKt b w0 [] σ w' := fun w1 h => by
  have hh := stLive_kt h s h8
  rw [hl, hs] at hh
  exact hh
theorem st_tm {b g : Nat} {o : Obj} {w0 : World} {σ : St} {l : Bool} (s : Nat) (s' : Int) (hs : ((s : Nat) : Int) = s') (h8 : s < 8) (hl : (σ.status s).live = l) : ∀ w1, ETm b w0 g o σ w1 → Calls Tryz.prog 18 #[.pointer (some ⟨b, 0, none⟩), .int .i64 s'] w1 fun e w' => ∃ y1 y2 y3 y4 y5 y6 y7 y8, e = .returned (.agg #[.bool l, y1, y2, y3, y4, y5, y6, y7, y8]) ∧ ETm b w0 g o σ w' := fun w1 h => by
  have hh := stLive_tm h s h8
  rw [hl, hs] at hh
  exact hh
theorem sp_kt {b : Nat} {w0 : World} {σ σ' : St} {kd : Nat} {r : Res} (s : Nat) (s' : Int) (hs : ((s : Nat) : Int) = s') (h8 : s < 8) (hst : oneStep σ s = some (σ', kd, r)) : ∀ w1, EKt b w0 [] σ w1 → Calls Tryz.prog 19 #[.pointer (some ⟨b, 0, none⟩), .int .i64 s'] w1 fun e w' => ∃ va vn vc, e = .returned (.tuple #[.agg #[.int .i64 (kd : Int), .int .i64 (r.e : Int), .int .i64 (r.value : Int), .slice va vn vc, .int .i64 (r.over : Int), .int .i64 (r.reason : Int)], .int .i64 0]) ∧ EKt b w0 [] σ' w' := fun w1 h => by
  have hh := step_kt h h8 hst
  rw [hs] at hh
  refine hh.mono ?_
  rintro e w' ⟨va, vn, vc, rfl, _, q⟩
  exact ⟨va, vn, vc, rfl, q.drop⟩
theorem sp_tm {b g : Nat} {o : Obj} {w0 : World} {σ σ' : St} {kd : Nat} {r : Res} (s : Nat) (s' : Int) (hs : ((s : Nat) : Int) = s') (h8 : s < 8) (hst : oneStep σ s = some (σ', kd, r)) : ∀ w1, ETm b w0 g o σ w1 → Calls Tryz.prog 19 #[.pointer (some ⟨b, 0, none⟩), .int .i64 s'] w1 fun e w' => ∃ va vn vc, e = .returned (.tuple #[.agg #[.int .i64 (kd : Int), .int .i64 (r.e : Int), .int .i64 (r.value : Int), .slice va vn vc, .int .i64 (r.over : Int), .int .i64 (r.reason : Int)], .int .i64 0]) ∧ ETm b w0 g o σ' w' := fun w1 h => by
  have hh := step_tm h h8 hst
  rw [hs] at hh
  exact hh
/-- The last step's Did, in a variable. -/
def didL (kd : Nat) (r : Res) (va : Option Addr) (vn vc : Nat) : List Value := [.int .i64 (kd : Int), .int .i64 (r.e : Int), .int .i64 (r.value : Int), .slice va vn vc, .int .i64 (r.over : Int), .int .i64 (r.reason : Int)]
def did (kd : Nat) (r : Res) (va : Option Addr) (vn vc : Nat) : Obj := .cells (didL kd r va vn vc).toArray 44
theorem did_put {b g : Nat} {w0 w : World} {σ : St} {kd : Nat} {r : Res} {va : Option Addr} {vn vc : Nat} (q : ETm b w0 g (did kd r va vn vc) σ w) (kd' : Nat) (r' : Res) (ua : Option Addr) (un uc : Nat) :
    (w.alloc (did kd' r' ua un uc)).there g 0 6 ∧ ETm b w0 g (did kd' r' ua un uc) σ ((w.alloc (did kd' r' ua un uc)).setCells g 0 (didL kd' r' ua un uc)) := by
  have q1 := q.alloc (did kd' r' ua un uc)
  have h := q1.obj
  refine ⟨there_of h, q1.put (But.setCells g _ 0 _) ?_⟩
  exact heap_setCells6 h _ _ _ _ _ _
theorem sb_kt {b : Nat} {w0 : World} {σ : St} (hb : (σ.status 1).busy = true) : ∀ ks w1, EKt b w0 ks σ w1 → Calls Tryz.prog 18 #[.pointer (some ⟨b, 0, none⟩), .int .i64 1] w1 fun e w' => ∃ y1 y2 y3 y4 y5 y6 y7 y8, e = .returned (.agg #[y1, .bool true, y2, y3, y4, y5, y6, y7, y8]) ∧ EKt b w0 ks σ w' := fun ks w1 h => by
  have hh := status_kt (s := 1) h (by decide)
  unfold statusCs at hh
  rw [hb] at hh
  exact hh.mono fun e w' x => ⟨_, _, _, _, _, _, _, _, x.1, x.2⟩
theorem wait_kt {b : Nat} {w0 : World} {σ σ1 σ2 : St} {r : Res} (hi : issueOk σ 1 ⟨6, 0, 0, 0⟩ = some σ1) (hr : runDo 1000 σ1 1 = some (σ2, r, 18)) : ∀ ks w1, EKt b w0 ks σ w1 → Calls Tryz.prog 31 #[.pointer (some ⟨b, 0, none⟩), .int .i64 1, .agg #[.int .i64 6, .int .i64 0, .int .i64 0, .int .i64 0]] w1 fun e w' => ∃ va vn vc, e = .returned (.tuple #[.agg #[.int .i64 (r.e : Int), .int .i64 (r.value : Int), .slice va vn vc, .int .i64 (r.over : Int), .int .i64 (r.reason : Int)], .int .i64 18]) ∧ EKt b w0 ks σ2 w' := fun ks w1 h => by
  refine (do_kt (s := 1) h (o := ⟨6, 0, 0, 0⟩) (by decide) hi (by decide : (1000 : Nat) ≤ _) hr).mono ?_
  rintro e w' ⟨va, vn, vc, rfl, _, q⟩
  exact ⟨va, vn, vc, rfl, q.tail⟩
theorem ps_len {b : Nat} {w0 : World} {σ : St} (n : Nat) (hok : okPairs σ = true) (hn : σ.pairs.length = n) : ∀ g o w1, ETm b w0 g o σ w1 → Calls Tryz.prog 29 #[.pointer (some ⟨b, 0, none⟩)] w1 fun e w' => ∃ av rc, e = .returned (.slice av n rc) ∧ ETm b w0 g o σ w' := fun g o w1 h => by
  refine (pairs_tm h hok).mono ?_
  rintro e w' ⟨av, cap, rfl, hr, q⟩
  rw [hn]
  exact ⟨av, cap, rfl, q⟩
theorem ps_two {b : Nat} {w0 : World} {σ : St} {ps : List (Nat × Nat)} (hok : okPairs σ = true) (p3 : σ.pairs = (3, 10) :: ps) (p4 : σ.pairs.length = 2) : ∀ g o w1, ETm b w0 g o σ w1 → Calls Tryz.prog 29 #[.pointer (some ⟨b, 0, none⟩)] w1 fun e w' => ∃ rg ro rc, e = .returned (.slice (some ⟨rg, ro, none⟩) 2 rc) ∧ w'.cell? ⟨rg, ro, none⟩ = some (.int .i64 3) ∧ w'.cell? ⟨rg, ro + 1, none⟩ = some (.int .i64 10) ∧ ETm b w0 g o σ w' := fun g o w1 h => by
  refine (pairs_tm h hok).mono ?_
  rintro e w' ⟨av, cap, rfl, hr, q⟩
  rw [p4] at hr ⊢
  rw [p3] at hr
  obtain ⟨a', n', c', k1, k2, k3, k4, k5⟩ := hr
  simp only [Value.slice.injEq] at k1
  obtain ⟨rfl, rfl, rfl⟩ := k1
  rcases k5 with k5 | ⟨rg, ro, rfl, _, _, hc⟩
  · cases k5
  · exact ⟨rg, ro, cap, rfl, hc 0 (by decide), hc 1 (by decide), q⟩
theorem run_eqQ (w : World) : (binOp .eql 80 (.agg #[.int .i64 3, .int .i64 10]) (.agg #[.int .i64 3, .int .i64 10])).run Tryz.prog w = .ok (.bool true) w := by
  go_simp
  done
theorem runSome_ok {s f : Nat} {σ σ2 : St} (h : runSome s (f + 1) σ = some σ2) : ∃ σ' kd r, oneStep σ s = some (σ', kd, r) ∧ kd ≠ 3 ∧ runSome s f σ' = some σ2 := by
  unfold runSome at h
  split at h
  · rename_i σ' kd r hs
    split at h
    · cases h
    · rename_i hk
      exact ⟨σ', kd, r, hs, hk, h⟩
  · cases h
end Go.Proofs.YtdgombgcjeelpaaGreat.Em

namespace Go.Proofs.YtdgombgcjeelpaaGreat.Em
open Go.ChangeShapes Go.WideShapes Go.ChangeAt Go.RowKit En
set_option linter.unusedVariables false
set_option linter.unusedSimpArgs false
set_option maxRecDepth 100000
set_option maxHeartbeats 1600000

theorem bond_law000 (how' level' reader' : Int) (w : World) (hw0 : (bits .and .i64 how' 255).tmod 3 = 0) : Calls Tryz.prog 9 #[.int .i64 how', .int .i64 level', .int .i64 reader', .bool false, .bool false] w fun e w' => e = .returned (.bool true) ∧ Below w.heap.size w w' := by
  have hws := hw0
  obtain ⟨a, ha, has⟩ := mask_to level' 3 (by decide)
  obtain ⟨c, hc, hcs⟩ := mask_to reader' 3 (by decide)
  rw [show ((3 : Nat) : Int) = 3 from rfl] at has hcs
  obtain ⟨L, hL1, hLv⟩ : ∃ L : Nat, (1 ≤ L ∧ L ≤ 3) ∧ (L : Int) = (a : Int) + 1 := ⟨a + 1, by omega, rfl⟩
  have hall := bond_all 0 L (c + 1) false false (by omega) hL1.1 hL1.2 (by omega) (by omega) (fun h => by cases h)
  obtain ⟨σ1, σ2, σ3, σ4, h1, h2, h3, h4, hend⟩ := bondRun_ok hall
  obtain ⟨σ5, i5, σ6, h5, h6, h7⟩ := bondRead_ok h4
  obtain ⟨σ7, σ8, r8, σ9, σ10, k10, r10, σ11, k11, r11, e1, e2, e3, e4, e5, e6, e7, e8⟩ := bondEnd_ok hend
  clear hall hend h4
  have n1 : IntKind.i64.wrap ((a : Int) + 1) = (a : Int) + 1 := by rw [IntKind.wrap_i64]; omega
  have n2 : IntKind.i64.wrap ((c : Int) + 1) = (c : Int) + 1 := by rw [IntKind.wrap_i64]; omega
  rw [show readOf 0 false = ⟨1, 3, 0, 0⟩ from rfl] at h6
  have HDI : Hid (∀ lv : Int, (L : Int) = lv → Calls Tryz.prog 37 #[.int .i64 0, .int .i64 lv, .bool false] w fun e w' => ∃ b, e = .returned (.pointer (some ⟨b, 0, none⟩)) ∧ EKt b w [] σ3 w') := fun lv hlv => dir_00 L lv hlv w σ1 σ2 σ3 h1 h2 h3
  have HAW := Lib.hid awake24
  clear h1 h2 h3
  go_enter Tryz.func9, Tryz.ntmps9
  go_upto_region 2 with fail
  generalize hcc : (c : Int) + 1 = cc at *
  generalize haa : (a : Int) + 1 = aa at *
  clear hws hw0 has hcs n1 n2
  go_upto_region 7 with (go_at_call 37; refine (HDI.out _ hLv).mono ?_; rintro e w1 ⟨b, rfl, q⟩; have T0 := Lib.hid q; clear q)
  clear HDI
  have HB1 : Hid (∀ ks w1, EKt b w ks σ3 w1 → Calls Tryz.prog 35 #[.pointer (some ⟨b, 0, none⟩), .int .i64 1, .int .i64 cc] w1 (EV b w ks σ5 (.tuple #[.int .i64 (i5 : Int), .int .i64 0]))) := fun ks w1 h => by
    rw [← hcc]
    exact begin_kt (s := 1) h (by decide) h5
  have HD1 : Hid (∀ ks w1, EKt b w ks σ5 w1 → Calls Tryz.prog 31 #[.pointer (some ⟨b, 0, none⟩), .int .i64 1, .agg #[.int .i64 1, .int .i64 3, .int .i64 0, .int .i64 0]] w1 (fun e w' => ∃ va vc, e = .returned (.tuple #[.agg #[.int .i64 0, .int .i64 20, .slice va 0 vc, .int .i64 0, .int .i64 0], .int .i64 0]) ∧ EKt b w (.row 2 (.slice va 0 vc) (pairCs []) :: ks) σ4 w')) := fun ks w1 h => by
    refine (do_kt (s := 1) h (o := ⟨1, 3, 0, 0⟩) (by decide) h6 (by decide : (1000 : Nat) ≤ _) h7).mono ?_
    rintro e w' ⟨va, vn, vc, rfl, hvn, q⟩
    subst hvn
    exact ⟨va, vc, rfl, q⟩
  have HD2 := Lib.hid (wait_kt (b := b) (w0 := w) e1 e2)
  have HSB := Lib.hid (sb_kt (b := b) (w0 := w) e3)
  have E4 := Lib.hid e4
  have E5 := Lib.hid e5
  have E6 := Lib.hid e6
  replace e8 : r11.over = 3 ∧ σ11.pairs.length = 2 := e8
  obtain ⟨p1, p2⟩ := e8
  have HPS := Lib.hid (ps_len (b := b) (w0 := w) 2 e7 p2)
  have P1 : (r11.over : Int) = 3 := by rw [p1]; rfl
  clear h5 h6 h7 e1 e2 e3 e4 e5 e6 e7 p1 p2 hL1
  go_upto_region 18 with (go_at_call 35; refine (HB1.out _ _ (T0.out)).mono ?_; rintro e w2 ⟨rfl, q⟩; have T1 := Lib.hid q; clear q T0)
  go_upto_region 25 with (first | (go_at_call 31; refine (HD1.out _ _ (((T1.out.allocg (w2.heap.size) rfl _).allocg (w2.heap.size + 1) (by simp) _).allocg (w2.heap.size + 1 + 1) (by simp) _)).mono ?_; rintro e w3 ⟨va, vc, rfl, q⟩; have hw := q.obj (k := w2.heap.size + 1 + 1) (o := Obj.cells #[.int .i64 0, .int .i64 20, .slice none 0 0, .int .i64 0, .int .i64 0] 42) (List.mem_cons_of_mem _ (List.mem_cons_self ..)); obtain ⟨c0, c1, c2, c3, c4⟩ := cells5 hw (Obj.cells #[.int .i64 0, .int .i64 20, .slice va 0 vc, .int .i64 0, .int .i64 0] 42); clear hw; have T2 := Lib.hid q; clear q T1) | (go_at_call 38; refine (same_result _ _ _ _ _ _ _ _ _ [] _ (Row.alloc' (T2.out.row (List.mem_cons_self ..)) _) (Row.alloc' (row_nil _ _) _)).mono ?_; rintro e w4 ⟨rfl, q⟩; have T3 := Lib.hid ((T2.out.alloc _).below q); clear q T2) | (go_at_call 31; refine (HD2.out _ _ (T3.out)).mono ?_; rintro e w5 ⟨vb, vm, vd, rfl, q⟩; have T4 := Lib.hid q; clear q T3) | (go_at_call 18; refine (HSB.out _ _ (T4.out.alloc _)).mono ?_; rintro e w6 ⟨y1, y2, y3, y4, y5, y6, y7, y8, rfl, q⟩; have hf := fld_busy (.bool true) y1 y2 y3 y4 y5 y6 y7 y8; have T5 := Lib.hid q; clear q T4))
  have T5d := Lib.hid T5.out.drop
  clear T5 HD1 HD2 HSB
  go_loopw [21] (fun i wr => ∃ (j f : Nat) (σ : St), i = .int .i64 (j : Int) ∧ j + f = 10 ∧ runSome 1 f σ = some σ9 ∧ EKt b w [] σ wr) (fun i _ => 10 - (intOf i).toNat)
  case atStart => exact ⟨0, 10, σ8, rfl, rfl, E4.out, T5d.out⟩
  case round =>
    clear T5d E4
    obtain ⟨j, f, σ, rfl, hjf, hrun, T6⟩ := hrel
    have T6 := Lib.hid T6
    cases f with
    | succ f =>
      obtain ⟨σ', kd', r', hst, hk3, hnext⟩ := runSome_ok hrun
      have HSP := Lib.hid (sp_kt (b := b) (w0 := w) 1 1 rfl (by decide) hst)
      have HX := Lib.hid (And.intro hjf hnext)
      have j1 : ((j : Int) < 10) = True := by simp; omega
      have j2 : decide ((j : Int) < 10) = true := by simp; omega
      have x4 : IntKind.i64.wrap ((j : Int) + 1) = (j : Int) + 1 := by rw [IntKind.wrap_i64]; omega
      have k3 : (kd' : Int) ≠ 3 := by omega
      have k1 : ((kd' : Int) == 3) = false := by simp; omega
      have k2 : ((kd' : Int) = 3) = False := by simp; omega
      clear k3
      clear hrun hst hnext hk3
      generalize (kd' : Int) = kz at *
      go_wp2_with (go_at_call 19; refine (HSP.out _ T6.out).mono ?_; rintro e w9 ⟨ua, un, uc, rfl, q⟩; have T7 := Lib.hid q; clear q T6)
      exact ⟨⟨j + 1, f, σ', rfl, by have := HX.out.1; omega, HX.out.2, (T7.out.alloc _).drop⟩, by have := HX.out.1; simp [intOf]; omega⟩
    | zero =>
      obtain rfl : σ = σ9 := Option.some.inj hrun
      have j1 : ((j : Int) < 10) = False := by simp; omega
      have j2 : decide ((j : Int) < 10) = false := by simp; omega
      clear hrun hjf
      go_upto_region 31 with fail
      go_loopw [24] (fun i wr => ∃ (j f : Nat) (σ : St) (kd : Nat) (r : Res), i = .int .i64 (j : Int) ∧ j + f = 1000 ∧ runLast 0 f σ kd r = some (σ10, k10, r10) ∧ EKt b w [] σ wr) (fun i _ => 1000 - (intOf i).toNat)
      case atStart => exact ⟨0, 1000, _, 0, {}, rfl, rfl, E5.out, T6.out⟩
      case round =>
        clear T6 E5 j1 j2
        obtain ⟨i, f, τ, kd, r, rfl, hjf, hrun, T6⟩ := hrel
        cases f with
        | zero => cases hrun
        | succ f =>
        rcases runLast_ok hrun with ⟨hl, q1, _, _⟩ | ⟨hl, σ', kd', r', hst, hnext⟩
        · rw [q1] at hl T6
          have HST := Lib.hid (st_kt (b := b) (w0 := w) 0 0 rfl (by decide) hl)
          have T6 := Lib.hid T6
          clear hrun hl q1 hjf
          go_upto_region 38 with (go_at_call 18; refine (HST.out _ T6.out).mono ?_; rintro e wx ⟨y1, y2, y3, y4, y5, y6, y7, y8, rfl, q⟩; have hf := fld_live (.bool false) y1 y2 y3 y4 y5 y6 y7 y8; have T7 := Lib.hid q; clear q T6)
          have T8 := Lib.hid (T7.out.tm (.cells #[.int .i64 0, .int .i64 0, .int .i64 0, .slice none 0 0, .int .i64 0, .int .i64 0] 44))
          clear T7
          go_loopw [28] (fun i wr => ∃ (j f : Nat) (σ : St) (kd : Nat) (r : Res) (va : Option Addr) (vn vc : Nat), i = .int .i64 (j : Int) ∧ j + f = 1000 ∧ runLast 1 f σ kd r = some (σ11, k11, r11) ∧ ETm b w wx.heap.size (did kd r va vn vc) σ wr) (fun i _ => 1000 - (intOf i).toNat)
          case atStart => exact ⟨0, 1000, _, 0, {}, none, 0, 0, rfl, rfl, E6.out, T8.out⟩
          case round =>
            clear T8 E6
            obtain ⟨i, f, υ, kd, r, va, vn, vc, rfl, hjf, hrun, T9⟩ := hrel
            generalize hgd : wx.heap.size = gd at *
            have i1 : ((i : Int) < 20000) = True := by
              cases f with
              | zero => cases hrun
              | succ f => simp; omega
            have i2 : decide ((i : Int) < 20000) = true := by simpa using i1
            cases f with
            | zero => cases hrun
            | succ f =>
            rcases runLast_ok hrun with ⟨hl, q1, _, q3⟩ | ⟨hl, σ', kd', r', hst, hnext⟩
            · rw [q3, q1] at T9
              rw [q1] at hl
              have HST := Lib.hid (st_tm (b := b) (w0 := w) (g := gd) (o := did kd r11 va vn vc) 1 1 rfl (by decide) hl)
              have T9 := Lib.hid T9
              clear hrun hl q1 q3 hjf hgd
              go_wp2_with (first | (go_at_call 18; refine (HST.out _ T9.out).mono ?_; rintro e w9 ⟨y1, y2, y3, y4, y5, y6, y7, y8, rfl, q⟩; have hf := fld_live (.bool false) y1 y2 y3 y4 y5 y6 y7 y8; have T10 := Lib.hid q; clear q T9) | (go_at_call 29; refine (HPS.out _ _ _ T10.out).mono ?_; rintro e w10 ⟨av, rc, rfl, q⟩; have d4 : w10.cell? ⟨gd, 4, none⟩ = some (.int .i64 3) := (by have ho := q.obj; simp only [did, didL] at ho; simp [World.cell?, ho, P1]); have T11 := Lib.hid q; clear q T10) | (go_at_call 22; refine (HAW.out _).mono ?_; rintro e w12 ⟨rfl, q⟩; have HB12 := Lib.hid q; clear q))
              go_ret
              exact ⟨rfl, ((T11.out.alloc _).below HB12.out).at.toBelow⟩
            · have HST := Lib.hid (st_tm (b := b) (w0 := w) (g := gd) (o := did kd r va vn vc) 1 1 rfl (by decide) hl)
              have HSP := Lib.hid (sp_tm (b := b) (w0 := w) (g := gd) (o := did kd r va vn vc) 1 1 rfl (by decide) hst)
              have T9 := Lib.hid T9
              have HX := Lib.hid (And.intro hjf hnext)
              have x4 : IntKind.i64.wrap ((i : Int) + 1) = (i : Int) + 1 := by rw [IntKind.wrap_i64]; omega
              clear hrun hl hst hnext hjf
              go_wp2_with (first | (go_at_call 18; refine (HST.out _ T9.out).mono ?_; rintro e w9 ⟨y1, y2, y3, y4, y5, y6, y7, y8, rfl, q⟩; have hf := fld_live (.bool true) y1 y2 y3 y4 y5 y6 y7 y8; have T10 := Lib.hid q; clear q T9) | (go_at_call 19; refine (HSP.out _ T10.out).mono ?_; rintro e w10 ⟨ua, un, uc, rfl, q⟩; have hp := did_put q kd' r' ua un uc; have HP := Lib.hid hp; clear hp; clear q T10) | (refine wpList_store_mid rfl 44 (.tmp 27) (.tmp 163) rfl gd 0 #[.int .i64 (kd' : Int), .int .i64 (r'.e : Int), .int .i64 (r'.value : Int), .slice ua un uc, .int .i64 (r'.over : Int), .int .i64 (r'.reason : Int)] rfl rfl HP.out.1 (by kernel_rfl) (by simp [Value.oneCell']) ?_; generalize hws : World.setCells _ _ _ _ = ws))
              subst hws
              exact ⟨⟨i + 1, f, σ', kd', r', ua, un, uc, rfl, by have := HX.out.1; omega, HX.out.2, HP.out.2⟩, by have := HX.out.1; simp [intOf]; omega⟩
        · have HST := Lib.hid (st_kt (b := b) (w0 := w) 0 0 rfl (by decide) hl)
          have HSP := Lib.hid (sp_kt (b := b) (w0 := w) 0 0 rfl (by decide) hst)
          have T6 := Lib.hid T6
          have HX := Lib.hid (And.intro hjf hnext)
          have i1 : ((i : Int) < 20000) = True := by simp; omega
          have i2 : decide ((i : Int) < 20000) = true := by simp; omega
          have x4 : IntKind.i64.wrap ((i : Int) + 1) = (i : Int) + 1 := by rw [IntKind.wrap_i64]; omega
          clear hrun hl hst hnext hjf
          go_wp2_with (first | (go_at_call 18; refine (HST.out _ T6.out).mono ?_; rintro e w9 ⟨y1, y2, y3, y4, y5, y6, y7, y8, rfl, q⟩; have hf := fld_live (.bool true) y1 y2 y3 y4 y5 y6 y7 y8; have T7 := Lib.hid q; clear q T6) | (go_at_call 19; refine (HSP.out _ T7.out).mono ?_; rintro e w10 ⟨ua, un, uc, rfl, q⟩; have T8 := Lib.hid q; clear q T7))
          exact ⟨⟨i + 1, f, σ', kd', r', rfl, by have := HX.out.1; omega, HX.out.2, (T8.out.alloc _).drop⟩, by have := HX.out.1; simp [intOf]; omega⟩
end Go.Proofs.YtdgombgcjeelpaaGreat.Em
