/- Texts of this claim, laid together: To, Twr, Tal, Oka. -/
import Derived.Test.YtbefcdjcefmicaaGreatBase21
import Derived.Deep.RegionWith
import Derived.Test.YtbefcdjcefmicaaGreatBase15
import Derived.Deep.MidRow
namespace Go.Proofs.YtbefcdjcefmicaaGreat.Em
open Go.ChangeShapes Go.WideShapes Go.ChangeAt Go.RowKit En
set_option linter.unusedVariables false
set_option linter.unusedSimpArgs false
set_option maxRecDepth 100000
set_option maxHeartbeats 1600000
theorem two_any {a b0 i1 i2 : Nat} {σ0 σ1 σ2 : St} {rs0 : List Res} (h0 : runWhole 1000 (new 100 1000) 7 1 [⟨2, 1, 0, 10⟩, ⟨2, 2, 0, 20⟩] = some (σ0, rs0, 0)) (h0l : 0 < rs0.length) (h1 : beginOk σ0 0 a = some (σ1, i1)) (h2 : beginOk σ1 1 b0 = some (σ2, i2)) (w : World) :
 Calls Tryz.prog 36 #[.int .i64 (a : Int), .int .i64 (b0 : Int)] w fun e w' => ∃ b, e = .returned (.pointer (some ⟨b, 0, none⟩)) ∧ EKt b w [] σ2 w' := by
 have HN : Hid (∀ w, Calls Tryz.prog 26 #[.agg #[.int .i64 100, .int .u64 1000]] w fun e w' => ∃ b, e = .returned (.tuple #[.pointer (some ⟨b, 0, none⟩), .int .i64 0]) ∧ EKt b w [] (new 100 1000) w') := fun w => (new_at 100 1000 (by omega) (by omega) (by omega) (by omega) w).mono fun e w' ⟨b, h, q⟩ => ⟨b, h, q.kt⟩
 obtain ⟨aa, haa⟩ : ∃ aa, aa = (a : Int) := ⟨_, rfl⟩
 obtain ⟨bb, hbb⟩ : ∃ bb, bb = (b0 : Int) := ⟨_, rfl⟩
 rw [← haa, ← hbb]
 have HAA := Lib.hid haa
 have HBB := Lib.hid hbb
 clear haa hbb
 go_enter Tryz.func36, Tryz.ntmps36
 go_upto_region 4 with (go_at_call 26; refine (HN.out _).mono ?_; rintro e w1 ⟨b, rfl, q⟩; have T0 := Lib.hid q; clear q)
 clear HN
 have HW0 : Hid (∀ ks w1, EKt b w ks (new 100 1000) w1 → Calls Tryz.prog 34 #[.pointer (some ⟨b, 0, none⟩), .int .i64 7, .int .i64 1, .slice (some ⟨w1.heap.size, 0, none⟩) 2 2] (w1.alloc (.cells #[.int .i64 2, .int .i64 1, .int .i64 0, .int .i64 10, .int .i64 2, .int .i64 2, .int .i64 0, .int .i64 20] 31)) fun e w' => ∃ rb ro rc, e = .returned (.tuple #[.slice (some ⟨rb, ro, none⟩) rs0.length rc, .int .i64 0]) ∧ EKt b w ks σ0 w') := fun ks w1 h => by
  refine (whole_kt h (ops := [⟨2, 1, 0, 10⟩, ⟨2, 2, 0, 20⟩]) (level := 1) (s := 7) (#[.int .i64 2, .int .i64 1, .int .i64 0, .int .i64 10, .int .i64 2, .int .i64 2, .int .i64 0, .int .i64 20]) 2 (by decide) (by decide : (1000 : Nat) ≤ _) h0 rfl rfl (by decide) (by first | assumption | simp)).mono ?_
  rintro e w' ⟨rb, ro, rc, rfl, q1, q2⟩
  exact ⟨rb, ro, rc, rfl, q1⟩
 have HB0 : Hid (∀ ks w1, EKt b w ks σ0 w1 → Calls Tryz.prog 41 #[.pointer (some ⟨b, 0, none⟩), .int .i64 0, .int .i64 aa] w1 (EV b w ks σ1 (.tuple #[.int .i64 (i1 : Int), .int .i64 0]))) := fun ks w1 h => by
  rw [HAA.out]
  exact begin_kt (s := 0) h (by decide) h1
 have HB1 : Hid (∀ ks w1, EKt b w ks σ1 w1 → Calls Tryz.prog 41 #[.pointer (some ⟨b, 0, none⟩), .int .i64 1, .int .i64 bb] w1 (EV b w ks σ2 (.tuple #[.int .i64 (i2 : Int), .int .i64 0]))) := fun ks w1 h => by
  rw [HBB.out]
  exact begin_kt (s := 1) h (by decide) h2
 clear h0 h0l h1 h2
 go_wp2_with (first | (go_at_call 34; refine (HW0.out _ _ T0.out).mono ?_; rintro e w9 ⟨rb, ro, rc, rfl, q⟩; have T1 := Lib.hid q; clear q T0) | (go_at_call 41; refine (HB0.out _ _ (T1.out)).mono ?_; rintro e w9 ⟨rfl, q⟩; have T2 := Lib.hid q; clear q T1) | (go_at_call 41; refine (HB1.out _ _ (T2.out)).mono ?_; rintro e w9 ⟨rfl, q⟩; have T3 := Lib.hid q; clear q T2))
 go_ret
 exact ⟨b, rfl, T3.out⟩
end Go.Proofs.YtbefcdjcefmicaaGreat.Em
namespace Go.Proofs.YtbefcdjcefmicaaGreat.Em
open Go.ChangeShapes Go.WideShapes Go.ChangeAt Go.RowKit En
set_option linter.unusedVariables false
set_option linter.unusedSimpArgs false
set_option maxRecDepth 100000
set_option maxHeartbeats 1600000
def twoSt (a b : Nat) : Option St :=
 match runWhole 1000 (new 100 1000) 7 1 [⟨2, 1, 0, 10⟩, ⟨2, 2, 0, 20⟩] with
 | some (σ, rs, e) => if e = 0 ∧ 0 < rs.length then (match beginOk σ 0 a with
  | some (σ1, _) => (match beginOk σ1 1 b with | some (σ2, _) => some σ2 | none => none)
  | none => none) else none
 | none => none
theorem twoSt_ok {a b : Nat} {σ : St} (h : twoSt a b = some σ) (w : World) : Calls Tryz.prog 36 #[.int .i64 (a : Int), .int .i64 (b : Int)] w fun e w' => ∃ b, e = .returned (.pointer (some ⟨b, 0, none⟩)) ∧ EKt b w [] σ w' := by
 unfold twoSt at h
 split at h
 · rename_i σ0 rs e h0
   split at h
   · rename_i hh
     obtain ⟨rfl, hl⟩ := hh
     split at h
     · rename_i σ1 i1 h1
       split at h
       · rename_i σ2 i2 h2
         obtain rfl := Option.some.inj h
         exact two_any h0 hl h1 h2 w
       · cases h
     · cases h
   · cases h
 · cases h
end Go.Proofs.YtbefcdjcefmicaaGreat.Em
namespace Go.Proofs.YtbefcdjcefmicaaGreat.Em
open Go.ChangeShapes Go.WideShapes Go.ChangeAt Go.RowKit En
set_option linter.unusedVariables false
set_option linter.unusedSimpArgs false
set_option maxRecDepth 100000
set_option maxHeartbeats 1600000
def PS (w w' : World) : Prop := ∀ (g : Nat) (cs : Array Value), w.heap[g]? = some (Obj.cells cs 140) → w'.heap[g]? = w.heap[g]?
theorem PS.trans {w w1 w2 : World} (h : PS w w1) (k : PS w1 w2) : PS w w2 := fun g cs hg => (k g cs ((h g cs hg).trans hg)).trans (h g cs hg)
theorem PS.below {w w' : World} (h : Below w.heap.size w w') : PS w w' := fun g cs hg => h.block g (lt_of hg)
theorem PS.grown {w w' : World} {ob : Option Nat} (h : w.grownBy w' ob) (ht : ∀ (g : Nat), ob = some g → ∃ (cs : Array Value) (T : TypeId), w.heap[g]? = some (Obj.cells cs T) ∧ T ≠ 140) : PS w w' := fun g cs hg => h.block g (lt_of hg) (by
 intro e
 obtain ⟨cs', T, h1, h2⟩ := ht g e.symm
 rw [hg] at h1
 simp only [Option.some.injEq, Obj.cells.injEq] at h1
 exact h2 h1.2.1.symm)
theorem PS.but {w w' : World} {b : Nat} {cs : Array Value} {T : TypeId} (h : But b w w') (hb : w.heap[b]? = some (.cells cs T)) (hT : T ≠ 140) : PS w w' := fun g cs' hg => h.block g (by
 rintro rfl
 rw [hb] at hg
 simp only [Option.some.injEq, Obj.cells.injEq] at hg
 exact hT hg.2.1)
theorem own_ps {w w' : World} {base : Nat} {v : Value} {n : Nat} {xs : List Value} (h : w.ownsRow base 140 2 v n xs) (hp : PS w w') : w'.ownsRow base 140 2 v n xs := by
 rcases h.2 with ⟨e1, e2⟩ | ⟨g, cap', cur, hv, hb', hg, hx1, hx2, hx3, hx4⟩
 · exact ⟨h.1, .inl ⟨e1, e2⟩⟩
 · exact ⟨h.1, .inr ⟨g, cap', cur, hv, hb', (hp g _ hg).trans hg, hx1, hx2, hx3, hx4⟩⟩
def EvO (base : Nat) (w : World) : List Ev → List Value → Prop
 | [], xs => xs = []
 | e :: l, xs => ∃ vp ys, xs = evCs e vp ++ ys ∧ w.ownsRow base 140 2 vp e.res.pairs.length (pairCs e.res.pairs) ∧ EvO base w l ys
theorem EvO.ps {base : Nat} {w w' : World} (hp : PS w w') : ∀ {l : List Ev} {xs : List Value}, EvO base w l xs → EvO base w' l xs
 | [], _, h => h
 | _ :: _, _, ⟨vp, ys, h1, h2, h3⟩ => ⟨vp, ys, h1, own_ps h2 hp, EvO.ps hp h3⟩
theorem EvO.snoc {base : Nat} {w : World} {e : Ev} {vp : Value} (hp : w.ownsRow base 140 2 vp e.res.pairs.length (pairCs e.res.pairs)) : ∀ {l : List Ev} {xs : List Value}, EvO base w l xs → EvO base w (l ++ [e]) (xs ++ evCs e vp)
 | [], xs, h => by
  have h0 : xs = [] := h
  subst h0
  exact ⟨vp, [], by simp, hp, rfl⟩
 | _ :: _, _, ⟨v, ys, h1, h2, h3⟩ => ⟨v, ys ++ evCs e vp, by rw [h1, List.append_assoc], h2, EvO.snoc hp h3⟩
theorem Evs.at {L : Lab} {w : World} : ∀ {l : List Ev} {xs : List Value}, Evs L w l xs → ∀ {k : Nat} {e : Ev}, l[k]? = some e → ∃ vp, PRow L w vp (pairCs e.res.pairs) ∧ ∀ j, j < 12 → xs[k * 12 + j]? = (evCs e vp)[j]?
 | [], _, _, _, _, h => by cases h
 | e' :: l, xs, ⟨vp, ys, h1, h2, h3⟩, 0, e, h => by
  obtain rfl : e' = e := by simpa using h
  refine ⟨vp, h2, fun j hj => ?_⟩
  rw [h1, Nat.zero_mul, Nat.zero_add, List.getElem?_append_left (by exact hj)]
 | e' :: l, xs, ⟨vp, ys, h1, h2, h3⟩, k + 1, e, h => by
  obtain ⟨vq, g1, g2⟩ := Evs.at h3 (k := k) (e := e) (by simpa using h)
  refine ⟨vq, g1, fun j hj => ?_⟩
  rw [h1, List.getElem?_append_right (by show 12 ≤ _; omega), show (k + 1) * 12 + j - (evCs e' vp).length = k * 12 + j by show _ - 12 = _; omega]
  exact g2 j hj
theorem infoEv : (Tryz.prog.info? 138).map (fun i => (i.zero, i.size, i.bytes)) = some (some (.agg #[.int .i64 0, .int .i64 0, .int .u64 0, .int .i64 0, .int .i64 0, .int .i64 0, .int .i64 0, .int .i64 0, .int .i64 0, .slice none 0 0, .int .i64 0, .int .i64 0]), 12, 112) := by kernel_rfl
theorem own_low {w : World} {base base' : Nat} {e : TypeId} {size : Nat} {v : Value} {n : Nat} {xs : List Value} (h : w.ownsRow base e size v n xs) (hb : base' ≤ base) : w.ownsRow base' e size v n xs := by
 rcases h.2 with ⟨e1, e2⟩ | ⟨g, cap', cur, hv, hb', hg, hx⟩
 · exact ⟨h.1, .inl ⟨e1, e2⟩⟩
 · exact ⟨h.1, .inr ⟨g, cap', cur, hv, Nat.le_trans hb hb', hg, hx⟩⟩
theorem own_head {w : World} {base : Nat} {e : TypeId} {size : Nat} {v : Value} {n : Nat} {xs : List Value} (h : w.ownsRow base e size v n xs) (hn : 0 < n) : ∃ g cap, v = .slice (some ⟨g, 0, none⟩) n cap ∧ ∃ cur, w.heap[g]? = some (.cells cur e) := by
 rcases h.2 with ⟨_, h0⟩ | ⟨g, cap, cur, hv, hb, hg, hnc, hcm, _⟩
 · omega
 · exact ⟨g, cap, hv, cur, hg⟩
theorem tale_any {A : Book} {σ : St} {w : World} (hR : Rep A σ w) (hn : σ.tale.length < 100000) (hp : ∀ e ∈ σ.tale, e.res.pairs.length ≤ 1000000) :
 Calls Tryz.prog 31 #[.pointer (some ⟨A.be, 0, none⟩)] w fun e w' => ∃ v cs, e = .returned v ∧ w'.ownsRow w.heap.size 138 12 v σ.tale.length cs ∧ EvO w.heap.size w' σ.tale cs ∧ Below w.heap.size w w' := by
 obtain ⟨ii, hii, hz0, hz1, hz2⟩ := info_parts infoEv
 have e24 : w.cell? ⟨A.be, 24, none⟩ = some A.vtale := hR.eng 24 rfl
 obtain ⟨ta, tc, hv, _⟩ := Ow.own_form (hR.mem.all .tale).1
 rw [hv] at e24
 obtain ⟨n, hnn⟩ : ∃ n, n = σ.tale.length := ⟨_, rfl⟩
 rw [← hnn] at hv e24 hn ⊢
 have H0 := Lib.hid (And.intro hR (And.intro hn (And.intro hp (And.intro hv hnn))))
 clear hR hn hp hv hnn
 go_enter Tryz.func31, Tryz.ntmps31
 go_wp2
 go_loopw [3, 11] (fun l i wr => ∃ (k : Nat) (cs : List Value), i = .int .i64 (k : Int) ∧ k ≤ n ∧ wr.ownsRow w.heap.size 138 12 l k cs ∧ EvO w.heap.size wr (σ.tale.take k) cs ∧ Below w.heap.size w wr) (fun _ i _ => n - (intOf i).toNat)
 case atStart => exact ⟨0, [], rfl, Nat.zero_le _, World.ownsRow_nil _ _ _ _, rfl, Below.refl _ _⟩
 case round =>
  obtain ⟨k, cs, rfl, hkn, hown, hev, hb⟩ := hrel
  obtain ⟨la, lc, rfl, hlc1, hlc2, _⟩ := Ow.own_form hown
  obtain ⟨hR, hn, hp, hv, hnn⟩ := H0.out
  by_cases hlt : k < n
  · obtain ⟨ev, hek⟩ : ∃ ev, σ.tale[k]? = some ev := ⟨_, List.getElem?_eq_getElem (by omega)⟩
    have hr := hR.below hb
    have ht : wr.ownsRow 0 138 12 A.vtale σ.tale.length A.taleCs := (hr.mem.all .tale).1
    rw [← hnn] at ht
    obtain ⟨gt, tc', hv', _⟩ := own_head ht (by omega)
    rw [hv] at hv'
    simp only [Value.slice.injEq] at hv'
    obtain ⟨rfl, _, rfl⟩ := hv'
    obtain ⟨vp, hpr, hcs⟩ := Evs.at hr.ev hek
    obtain ⟨pa, pn, pc, rfl⟩ := frow_form hpr.1
    have hpn : ev.res.pairs.length = pn := by
     obtain ⟨_, _, _, e0, h1, _⟩ := hpr.1
     simp only [Value.slice.injEq] at e0
     rw [pairCs_len] at h1
     omega
    have hpl := hp ev (List.mem_of_getElem? hek)
    rw [hv] at ht
    have hX : ∀ j v, j < 12 → (evCs ev (.slice pa pn pc))[j]? = some v → wr.cell? ⟨gt, k * 12 + j, none⟩ = some v := fun j v hj hj2 => by
     rw [ht.cellAt (k * 12 + j) (by omega), hcs j hj]; exact hj2
    have X0 := hX 0 _ (by omega) rfl
    rw [Nat.add_zero] at X0
    have X1 := hX 1 _ (by omega) rfl
    have X2 := hX 2 _ (by omega) rfl
    have X3 := hX 3 _ (by omega) rfl
    have X4 := hX 4 _ (by omega) rfl
    have X5 := hX 5 _ (by omega) rfl
    have X6 := hX 6 _ (by omega) rfl
    have X7 := hX 7 _ (by omega) rfl
    have X8 := hX 8 _ (by omega) rfl
    have X9 := hX 9 _ (by omega) rfl
    have X10 := hX 10 _ (by omega) rfl
    have X11 := hX 11 _ (by omega) rfl
    have HC : Hid (∀ w1, Below wr.heap.size wr w1 → Calls Tryz.prog 54 #[.agg #[.int .i64 (ev.res.e : Int), .int .i64 (ev.res.value : Int), .slice pa pn pc, .int .i64 (ev.res.over : Int), .int .i64 (ev.res.reason : Int)]] w1 fun e w' => ∃ qa qc, e = .returned (.agg #[.int .i64 (ev.res.e : Int), .int .i64 (ev.res.value : Int), .slice qa pn qc, .int .i64 (ev.res.over : Int), .int .i64 (ev.res.reason : Int)]) ∧ w'.ownsRow w1.heap.size 140 2 (.slice qa pn qc) pn (pairCs ev.res.pairs) ∧ Below w1.heap.size w1 w') := fun w1 hb1 => copied_any w1 _ _ _ _ pa pn pc ev.res.pairs (FRow.row (hpr.1.grow (Grow.below hb1))) hpn (by omega)
    have b0 : ((k : Int) < (n : Int)) = True := by simp; omega
    have b1 : (k : Int) < (n : Int) := by omega
    have b2 : (0 : Int) ≤ (k : Int) := by omega
    have n3 : IntKind.i64.wrap ((k : Int) + 1) = (k : Int) + 1 := by rw [IntKind.wrap_i64]; omega
    have HX := Lib.hid (And.intro hown (And.intro hev (And.intro hb (And.intro hek (And.intro hlt (And.intro hpn (And.intro hn hnn)))))))
    clear hown hev hb hek hlt hpn hn hnn hR hp hv hr ht hpr hcs hpl hX hkn
    have HCA : Hid (∀ w1, w1 = wr.alloc (.cells #[.int .i64 (ev.kind : Int), .int .i64 (ev.t : Int), .int .u64 (ev.n : Int), .int .i64 (ev.op.kind : Int), .int .i64 (ev.op.key : Int), .int .i64 (ev.op.hi : Int), .int .i64 (ev.op.value : Int), .int .i64 (ev.res.e : Int), .int .i64 (ev.res.value : Int), .slice pa pn pc, .int .i64 (ev.res.over : Int), .int .i64 (ev.res.reason : Int)] 138) → (w1.cell? ⟨wr.heap.size, 7, none⟩ = some (.int .i64 (ev.res.e : Int)) ∧ w1.cell? ⟨wr.heap.size, 8, none⟩ = some (.int .i64 (ev.res.value : Int)) ∧ w1.cell? ⟨wr.heap.size, 9, none⟩ = some (.slice pa pn pc) ∧ w1.cell? ⟨wr.heap.size, 10, none⟩ = some (.int .i64 (ev.res.over : Int)) ∧ w1.cell? ⟨wr.heap.size, 11, none⟩ = some (.int .i64 (ev.res.reason : Int)))) := by
     rintro w1 rfl
     have h := heap_alloc_new wr (.cells #[.int .i64 (ev.kind : Int), .int .i64 (ev.t : Int), .int .u64 (ev.n : Int), .int .i64 (ev.op.kind : Int), .int .i64 (ev.op.key : Int), .int .i64 (ev.op.hi : Int), .int .i64 (ev.op.value : Int), .int .i64 (ev.res.e : Int), .int .i64 (ev.res.value : Int), .slice pa pn pc, .int .i64 (ev.res.over : Int), .int .i64 (ev.res.reason : Int)] 138)
     refine ⟨?_, ?_, ?_, ?_, ?_⟩ <;> (rw [cell_of_row _ _ _ _ _ _ h]; rfl)
    go_upto_region 5 with fail
    have hb1 : Below wr.heap.size wr (wr.alloc (.cells #[.int .i64 (ev.kind : Int), .int .i64 (ev.t : Int), .int .u64 (ev.n : Int), .int .i64 (ev.op.kind : Int), .int .i64 (ev.op.key : Int), .int .i64 (ev.op.hi : Int), .int .i64 (ev.op.value : Int), .int .i64 (ev.res.e : Int), .int .i64 (ev.res.value : Int), .slice pa pn pc, .int .i64 (ev.res.over : Int), .int .i64 (ev.res.reason : Int)] 138)) := (Below.refl _ _).alloc (Nat.le_refl _) _
    have h1 := heap_alloc_new wr (.cells #[.int .i64 (ev.kind : Int), .int .i64 (ev.t : Int), .int .u64 (ev.n : Int), .int .i64 (ev.op.kind : Int), .int .i64 (ev.op.key : Int), .int .i64 (ev.op.hi : Int), .int .i64 (ev.op.value : Int), .int .i64 (ev.res.e : Int), .int .i64 (ev.res.value : Int), .slice pa pn pc, .int .i64 (ev.res.over : Int), .int .i64 (ev.res.reason : Int)] 138)
    obtain ⟨y7, y8, y9, y10, y11⟩ := HCA.out _ rfl
    have HCC := Lib.hid (HC.out _ hb1)
    have hsz : (wr.alloc (.cells #[.int .i64 (ev.kind : Int), .int .i64 (ev.t : Int), .int .u64 (ev.n : Int), .int .i64 (ev.op.kind : Int), .int .i64 (ev.op.key : Int), .int .i64 (ev.op.hi : Int), .int .i64 (ev.op.value : Int), .int .i64 (ev.res.e : Int), .int .i64 (ev.res.value : Int), .slice pa pn pc, .int .i64 (ev.res.over : Int), .int .i64 (ev.res.reason : Int)] 138)).heap.size = wr.heap.size + 1 := by simp
    have H1 := Lib.hid (And.intro hb1 (And.intro h1 hsz))
    clear hb1 h1 HC HCA X0 X1 X2 X3 X4 X5 X6 X7 X8 X9 X10 X11 hsz
    generalize wr.alloc _ = w1 at *
    go_upto_region 6 with (first | (go_at_call 54; refine HCC.out.mono ?_; rintro e w2 ⟨qa, qc, rfl, q1, q2⟩; have hb2 := H1.out.1.trans (q2.mono H1.out.1.size); have h2 : w2.heap[wr.heap.size]? = some (.cells #[.int .i64 (ev.kind : Int), .int .i64 (ev.t : Int), .int .u64 (ev.n : Int), .int .i64 (ev.op.kind : Int), .int .i64 (ev.op.key : Int), .int .i64 (ev.op.hi : Int), .int .i64 (ev.op.value : Int), .int .i64 (ev.res.e : Int), .int .i64 (ev.res.value : Int), .slice pa pn pc, .int .i64 (ev.res.over : Int), .int .i64 (ev.res.reason : Int)] 138) := (q2.block _ (by rw [H1.out.2.2]; omega)).trans H1.out.2.1; have H2 := Lib.hid (And.intro q1 (And.intro q2 (And.intro hb2 h2))); have thr := there_of h2; clear q1 q2 hb2 h2) | (refine wpList_store_mid rfl 42 (.tmp 18) (.tmp 17) rfl wr.heap.size 7 #[.int .i64 (ev.res.e : Int), .int .i64 (ev.res.value : Int), .slice qa pn qc, .int .i64 (ev.res.over : Int), .int .i64 (ev.res.reason : Int)] rfl rfl (by intro j hj; have h := thr (7 + j) (by simp at hj ⊢; omega); simpa [Nat.add_assoc] using h) (by kernel_rfl) (by simp [Value.oneCell']) ?_; generalize hws : World.setCells _ _ _ _ = w3))
    obtain ⟨q1, q2, hb2, h2⟩ := H2.out
    have h3 : w3.heap[wr.heap.size]? = some (.cells #[.int .i64 (ev.kind : Int), .int .i64 (ev.t : Int), .int .u64 (ev.n : Int), .int .i64 (ev.op.kind : Int), .int .i64 (ev.op.key : Int), .int .i64 (ev.op.hi : Int), .int .i64 (ev.op.value : Int), .int .i64 (ev.res.e : Int), .int .i64 (ev.res.value : Int), .slice qa pn qc, .int .i64 (ev.res.over : Int), .int .i64 (ev.res.reason : Int)] 138) := by
     rw [← hws]
     have g1 := heap_setCell_same h2 7 (.int .i64 (ev.res.e : Int))
     have g2 := heap_setCell_same g1 8 (.int .i64 (ev.res.value : Int))
     have g3 := heap_setCell_same g2 9 (.slice qa pn qc)
     have g4 := heap_setCell_same g3 10 (.int .i64 (ev.res.over : Int))
     have g5 := heap_setCell_same g4 11 (.int .i64 (ev.res.reason : Int))
     exact g5
    have hbut : But wr.heap.size w2 w3 := by rw [← hws]; exact But.setCells _ _ _ _
    obtain ⟨hown, hev, hb, hek, hlt, hpn, hn, hnn⟩ := HX.out
    have hsame : ∀ b, b < wr.heap.size → w3.heap[b]? = wr.heap[b]? := fun b hb' => (hbut.block b (by omega)).trans (hb2.block b hb')
    have hown3 := own_same (w' := w3.alloc (.cells #[.int .i64 (ev.kind : Int), .int .i64 (ev.t : Int), .int .u64 (ev.n : Int), .int .i64 (ev.op.kind : Int), .int .i64 (ev.op.key : Int), .int .i64 (ev.op.hi : Int), .int .i64 (ev.op.value : Int), .int .i64 (ev.res.e : Int), .int .i64 (ev.res.value : Int), .slice qa pn qc, .int .i64 (ev.res.over : Int), .int .i64 (ev.res.reason : Int)] 138)) hown fun g hg => (heap_alloc_old _ _ (Nat.lt_of_lt_of_le (hown.lt g hg).2 (by rw [hbut.size]; exact hb2.size))).trans (hsame g (hown.lt g hg).2)
    have ps3 : PS wr (w3.alloc (.cells #[.int .i64 (ev.kind : Int), .int .i64 (ev.t : Int), .int .u64 (ev.n : Int), .int .i64 (ev.op.kind : Int), .int .i64 (ev.op.key : Int), .int .i64 (ev.op.hi : Int), .int .i64 (ev.op.value : Int), .int .i64 (ev.res.e : Int), .int .i64 (ev.res.value : Int), .slice qa pn qc, .int .i64 (ev.res.over : Int), .int .i64 (ev.res.reason : Int)] 138)) := ((PS.below hb2).trans (PS.but hbut h2 (by decide))).trans (PS.below ((Below.refl _ _).alloc (Nat.le_refl _) _))
    have ps2 : PS w2 (w3.alloc (.cells #[.int .i64 (ev.kind : Int), .int .i64 (ev.t : Int), .int .u64 (ev.n : Int), .int .i64 (ev.op.kind : Int), .int .i64 (ev.op.key : Int), .int .i64 (ev.op.hi : Int), .int .i64 (ev.op.value : Int), .int .i64 (ev.res.e : Int), .int .i64 (ev.res.value : Int), .slice qa pn qc, .int .i64 (ev.res.over : Int), .int .i64 (ev.res.reason : Int)] 138)) := (PS.but hbut h2 (by decide)).trans (PS.below ((Below.refl _ _).alloc (Nat.le_refl _) _))
    have hpr : (w3.alloc (.cells #[.int .i64 (ev.kind : Int), .int .i64 (ev.t : Int), .int .u64 (ev.n : Int), .int .i64 (ev.op.kind : Int), .int .i64 (ev.op.key : Int), .int .i64 (ev.op.hi : Int), .int .i64 (ev.op.value : Int), .int .i64 (ev.res.e : Int), .int .i64 (ev.res.value : Int), .slice qa pn qc, .int .i64 (ev.res.over : Int), .int .i64 (ev.res.reason : Int)] 138)).ownsRow w.heap.size 140 2 (.slice qa pn qc) pn (pairCs ev.res.pairs) := own_low (own_ps q1 ps2) (by rw [H1.out.2.2]; have := hb.size; omega)
    have hb3 : Below w.heap.size w (w3.alloc (.cells #[.int .i64 (ev.kind : Int), .int .i64 (ev.t : Int), .int .u64 (ev.n : Int), .int .i64 (ev.op.kind : Int), .int .i64 (ev.op.key : Int), .int .i64 (ev.op.hi : Int), .int .i64 (ev.op.value : Int), .int .i64 (ev.res.e : Int), .int .i64 (ev.res.value : Int), .slice qa pn qc, .int .i64 (ev.res.over : Int), .int .i64 (ev.res.reason : Int)] 138)) := by
     refine Below.alloc ⟨?_, ?_, ?_, ?_, ?_⟩ (by rw [hbut.size]; exact Nat.le_trans hb.size hb2.size) _
     · exact hbut.os.trans (hb2.os.trans hb.os)
     · exact hbut.tape.trans (hb2.tape.trans hb.tape)
     · exact hbut.output.trans (hb2.output.trans hb.output)
     · rw [hbut.size]; exact Nat.le_trans hb.size hb2.size
     · exact fun b hb' => (hsame b (Nat.lt_of_lt_of_le hb' hb.size)).trans (hb.block b hb')
    have htyp : ∀ (g : Nat), (Value.slice la k lc).ownBlock = some g → ∃ (cs : Array Value) (T : TypeId), (w3.alloc (.cells #[.int .i64 (ev.kind : Int), .int .i64 (ev.t : Int), .int .u64 (ev.n : Int), .int .i64 (ev.op.kind : Int), .int .i64 (ev.op.key : Int), .int .i64 (ev.op.hi : Int), .int .i64 (ev.op.value : Int), .int .i64 (ev.res.e : Int), .int .i64 (ev.res.value : Int), .slice qa pn qc, .int .i64 (ev.res.over : Int), .int .i64 (ev.res.reason : Int)] 138)).heap[g]? = some (Obj.cells cs T) ∧ T ≠ 140 := fun g hg => by
     rcases hown3.2 with ⟨e0, _⟩ | ⟨g', cap, cur, hv, _, hgc, _⟩
     · simp only [Value.slice.injEq] at e0
       rw [e0.1] at hg; cases hg
     · rw [hv] at hg
       obtain rfl : g' = g := by simpa [Value.ownBlock] using hg
       exact ⟨cur, _, hgc, by decide⟩
    have HZ := Lib.hid (And.intro hown3 (And.intro (hev.ps ps3) (And.intro hpr (And.intro hb3 (And.intro htyp (And.intro hek (And.intro hlt (And.intro hpn hn))))))))
    have Z0 := (show w3.cell? ⟨wr.heap.size, 0, none⟩ = some _ by rw [cell_of_row _ _ _ _ _ _ h3]; rfl)
    have Z1 := (show w3.cell? ⟨wr.heap.size, 1, none⟩ = some _ by rw [cell_of_row _ _ _ _ _ _ h3]; rfl)
    have Z2 := (show w3.cell? ⟨wr.heap.size, 2, none⟩ = some _ by rw [cell_of_row _ _ _ _ _ _ h3]; rfl)
    have Z3 := (show w3.cell? ⟨wr.heap.size, 3, none⟩ = some _ by rw [cell_of_row _ _ _ _ _ _ h3]; rfl)
    have Z4 := (show w3.cell? ⟨wr.heap.size, 4, none⟩ = some _ by rw [cell_of_row _ _ _ _ _ _ h3]; rfl)
    have Z5 := (show w3.cell? ⟨wr.heap.size, 5, none⟩ = some _ by rw [cell_of_row _ _ _ _ _ _ h3]; rfl)
    have Z6 := (show w3.cell? ⟨wr.heap.size, 6, none⟩ = some _ by rw [cell_of_row _ _ _ _ _ _ h3]; rfl)
    have Z7 := (show w3.cell? ⟨wr.heap.size, 7, none⟩ = some _ by rw [cell_of_row _ _ _ _ _ _ h3]; rfl)
    have Z8 := (show w3.cell? ⟨wr.heap.size, 8, none⟩ = some _ by rw [cell_of_row _ _ _ _ _ _ h3]; rfl)
    have Z9 := (show w3.cell? ⟨wr.heap.size, 9, none⟩ = some _ by rw [cell_of_row _ _ _ _ _ _ h3]; rfl)
    have Z10 := (show w3.cell? ⟨wr.heap.size, 10, none⟩ = some _ by rw [cell_of_row _ _ _ _ _ _ h3]; rfl)
    have Z11 := (show w3.cell? ⟨wr.heap.size, 11, none⟩ = some _ by rw [cell_of_row _ _ _ _ _ _ h3]; rfl)
    clear q1 q2 hb2 h2 h3 hbut hown hev hb hek hlt hpn hn hnn hsame hown3 ps3 ps2 hpr hb3 htyp H2 HX H1 HCC hws thr y7 y8 y9 y10 y11
    go_wp2_with (refine Ow.wpList_append_to _ rfl (.tmp 19) (.tmp 21) 66 rfl w.heap.size 138 ii _ 12 112 Tryz.underlying66 hii hz0 hz1 hz2 rfl (by decide) (.slice la k lc) k cs rfl HZ.out.1 ⟨w3.heap.size, 0, none⟩ 1 1 (by omega) [.int .i64 (ev.kind : Int), .int .i64 (ev.t : Int), .int .u64 (ev.n : Int), .int .i64 (ev.op.kind : Int), .int .i64 (ev.op.key : Int), .int .i64 (ev.op.hi : Int), .int .i64 (ev.op.value : Int), .int .i64 (ev.res.e : Int), .int .i64 (ev.res.value : Int), .slice qa pn qc, .int .i64 (ev.res.over : Int), .int .i64 (ev.res.reason : Int)] rfl rfl (fun j u hu => Ow.new_row w3 [.int .i64 (ev.kind : Int), .int .i64 (ev.t : Int), .int .u64 (ev.n : Int), .int .i64 (ev.op.kind : Int), .int .i64 (ev.op.key : Int), .int .i64 (ev.op.hi : Int), .int .i64 (ev.op.value : Int), .int .i64 (ev.res.e : Int), .int .i64 (ev.res.value : Int), .slice qa pn qc, .int .i64 (ev.res.over : Int), .int .i64 (ev.res.reason : Int)] _ w3.heap.size (by simp) j u hu) (by intro u hu; simp at hu; rcases hu with rfl | rfl | rfl | rfl | rfl | rfl | rfl | rfl | rfl | rfl | rfl | rfl <;> rfl) (by have := HZ.out.2.2.2.2.2.2.1; have := HZ.out.2.2.2.2.2.2.2.2; unfold maxLen; omega) (by have := HZ.out.2.2.2.2.2.2.1; have := HZ.out.2.2.2.2.2.2.2.2; omega) (HZ.out.2.2.2.1.size) ?_; intro v' w4 q1 q2 q3; obtain ⟨av, cv, rfl, _⟩ := Ow.own_form q1; have HY := Lib.hid (And.intro q1 q2); clear q1 q2 q3)
    go_roundw
    case rel =>
     obtain ⟨z1, z2, z3, z4, z5, z6, z7, z8, z9⟩ := HZ.out
     obtain ⟨q1, q2⟩ := HY.out
     have ps4 := PS.grown q2 z5
     refine ⟨k + 1, cs ++ [.int .i64 (ev.kind : Int), .int .i64 (ev.t : Int), .int .u64 (ev.n : Int), .int .i64 (ev.op.kind : Int), .int .i64 (ev.op.key : Int), .int .i64 (ev.op.hi : Int), .int .i64 (ev.op.value : Int), .int .i64 (ev.res.e : Int), .int .i64 (ev.res.value : Int), .slice qa pn qc, .int .i64 (ev.res.over : Int), .int .i64 (ev.res.reason : Int)], rfl, z7, q1, ?_, ⟨q2.os.trans z4.os, q2.tape.trans z4.tape, q2.output.trans z4.output, Nat.le_trans z4.size q2.size, fun b hb => (q2.block b (Nat.lt_of_lt_of_le hb z4.size) (fun e => ?_)).trans (z4.block b hb)⟩⟩
     · rw [List.take_add_one, z6]
       have h9 : EvO w.heap.size w4 (σ.tale.take k ++ [ev]) (cs ++ evCs ev (.slice qa pn qc)) := (z2.ps ps4).snoc (by rw [z8]; exact own_ps z3 ps4)
       exact h9
     · have := (z1.lt b e.symm).1
       omega
    case measure => have := HZ.out.2.2.2.2.2.2.1; simp [intOf]; omega
  · obtain rfl : k = n := by omega
    have b0 : ((k : Int) < (k : Int)) = False := by simp
    have HX := Lib.hid (And.intro hown (And.intro hev (And.intro hb hnn)))
    clear hown hev hb hnn hlt hkn hn hp hv hR
    go_wp2
    go_ret
    obtain ⟨hown, hev, hb, hnn⟩ := HX.out
    rw [hnn, List.take_length] at hev
    exact ⟨_, cs, rfl, hown, hev, hb⟩
end Go.Proofs.YtbefcdjcefmicaaGreat.Em
namespace Go.Proofs.YtbefcdjcefmicaaGreat.Em
open Go.ChangeShapes Go.WideShapes Go.ChangeAt Go.RowKit En
set_option linter.unusedVariables false
set_option linter.unusedSimpArgs false
set_option maxRecDepth 100000
set_option maxHeartbeats 1600000
structure Dq where
 id : Nat
 level : Nat
 state : Nat
 begin_ : Nat
 end_ : Nat
 ops : List (En.Op × Res)
 deriving Repr, DecidableEq, Inhabited
structure Okr where
 deals : List Dq
 bonds : List (Nat × Nat)
 last : Nat
 deriving Repr, DecidableEq, Inhabited
def okEv (O : Okr) (e : Ev) : Option Okr :=
 if e.kind = 1 then (if e.t = O.deals.length + 1 ∧ O.last < e.n then some { O with deals := O.deals ++ [⟨e.t, e.op.value, 1, e.n, 0, []⟩], last := e.n } else none)
 else match e.t with
 | 0 => none
 | k + 1 => match O.deals[k]? with
  | none => none
  | some d =>
   if d.state = 1 then
    if e.kind = 2 then (if d.end_ = 0 ∧ d.ops.length < 1000 then some { O with deals := O.deals.set k { d with ops := d.ops ++ [(e.op, e.res)] } } else none)
    else if e.kind = 3 then (if d.end_ = 0 ∧ O.last < e.n then some { O with deals := O.deals.set k { d with end_ := e.n }, last := e.n } else none)
    else if e.kind = 4 then (match e.n with
     | 0 => none
     | j + 1 => match O.deals[j]? with
      | none => none
      | some c => if j + 1 ≤ 20000 ∧ j ≠ k ∧ c.state ≠ 4 ∧ c.end_ ≠ 0 ∧ (d.end_ = 0 ∨ c.end_ < d.end_) ∧ O.bonds.length < 100000 then some { O with bonds := O.bonds ++ [(k + 1, j + 1)] } else none)
    else if e.kind = 5 then (if d.end_ ≠ 0 ∧ O.bonds.all (fun b => b.1 != k + 1 || (match b.2 with | 0 => false | j + 1 => match O.deals[j]? with | some c => c.state == 3 | none => false)) = true then some { O with deals := O.deals.set k { d with state := 3 } } else none)
    else if e.kind = 6 then some { O with deals := O.deals.set k { d with state := 4 } }
    else none
   else none
def okTale : List Ev → Okr → Option Okr
 | [], O => some O
 | e :: l, O => match okEv O e with | some O' => okTale l O' | none => none
def dqCs (d : Dq) (v : Value) : List Value := [i64 d.id, i64 d.level, i64 d.state, u64 d.begin_, u64 d.end_, v]
def dqsCs (l : List (Dq × Value)) : List Value := l.flatMap fun p => dqCs p.1 p.2
theorem dqsCs_len (l : List (Dq × Value)) : (dqsCs l).length = l.length * 6 := by
 unfold dqsCs
 induction l with
 | nil => rfl
 | cons a l ih => rw [List.flatMap_cons, List.length_append, ih, List.length_cons, show (dqCs a.1 a.2).length = 6 from rfl]; omega
theorem dqsCs_get : ∀ (l : List (Dq × Value)) (k j : Nat), j < 6 → (dqsCs l)[k * 6 + j]? = (l[k]?).bind fun p => (dqCs p.1 p.2)[j]?
 | [], _, _, _ => rfl
 | a :: l, 0, j, hj => by
  unfold dqsCs
  rw [List.flatMap_cons, Nat.zero_mul, Nat.zero_add, List.getElem?_append_left (by exact hj)]
  rfl
 | a :: l, k + 1, j, hj => by
  have h := dqsCs_get l k j hj
  unfold dqsCs at h ⊢
  rw [List.flatMap_cons, List.getElem?_append_right (by show 6 ≤ _; omega), show (k + 1) * 6 + j - (dqCs a.1 a.2).length = k * 6 + j by show _ - 6 = _; omega, h]
  rfl
theorem dqsCs_set : ∀ (l : List (Dq × Value)) (k j : Nat) (u : Value) (p p' : Dq × Value), j < 6 → l[k]? = some p → (dqCs p.1 p.2).set j u = dqCs p'.1 p'.2 → (dqsCs l).set (k * 6 + j) u = dqsCs (l.set k p')
 | [], _, _, _, _, _, _, h, _ => by cases h
 | a :: l, 0, j, u, p, p', hj, h, he => by
  obtain rfl : a = p := by simpa using h
  unfold dqsCs
  rw [List.flatMap_cons, Nat.zero_mul, Nat.zero_add, List.set_append_left _ _ (by exact hj), he]
  rfl
 | a :: l, k + 1, j, u, p, p', hj, h, he => by
  have ih := dqsCs_set l k j u p p' hj (by simpa using h) he
  unfold dqsCs at ih ⊢
  rw [List.flatMap_cons, List.set_append_right _ _ (by show 6 ≤ _; omega), show (k + 1) * 6 + j - (dqCs a.1 a.2).length = k * 6 + j by show _ - 6 = _; omega, ih]
  rfl
def cqCs (o : En.Op) (r : Res) (vp : Value) : List Value := [i64 o.kind, i64 o.key, i64 o.hi, i64 o.value, i64 r.e, i64 r.value, vp, i64 r.over, i64 r.reason]
def Cqs (base : Nat) (w : World) : List (En.Op × Res) → List Value → Prop
 | [], cs => cs = []
 | p :: l, cs => ∃ vp cs', cs = cqCs p.1 p.2 vp ++ cs' ∧ w.ownsRow base 140 2 vp p.2.pairs.length (pairCs p.2.pairs) ∧ Cqs base w l cs'
theorem Cqs.ps {base : Nat} {w w' : World} (hp : PS w w') : ∀ {l : List (En.Op × Res)} {cs : List Value}, Cqs base w l cs → Cqs base w' l cs
 | [], _, h => h
 | _ :: _, _, ⟨vp, cs', h1, h2, h3⟩ => ⟨vp, cs', h1, own_ps h2 hp, Cqs.ps hp h3⟩
theorem Cqs.snoc {base : Nat} {w : World} {oo : En.Op} {r : Res} {vp : Value} (f : w.ownsRow base 140 2 vp r.pairs.length (pairCs r.pairs)) : ∀ {l : List (En.Op × Res)} {cs : List Value}, Cqs base w l cs → Cqs base w (l ++ [(oo, r)]) (cs ++ cqCs oo r vp)
 | [], _, h => ⟨vp, [], by rw [show _ = _ from h]; simp, f, rfl⟩
 | _ :: _, _, ⟨vp', cs', h1, h2, h3⟩ => ⟨vp', _, by rw [h1, List.append_assoc], h2, Cqs.snoc f h3⟩
def CS (w w' : World) : Prop := ∀ (g : Nat) (cs : Array Value), w.heap[g]? = some (Obj.cells cs 57) → w'.heap[g]? = w.heap[g]?
theorem CS.trans {w w1 w2 : World} (h : CS w w1) (k : CS w1 w2) : CS w w2 := fun g cs hg => (k g cs ((h g cs hg).trans hg)).trans (h g cs hg)
theorem CS.below {w w' : World} (h : Below w.heap.size w w') : CS w w' := fun g cs hg => h.block g (lt_of hg)
theorem CS.but {w w' : World} {b : Nat} {cs : Array Value} {T : TypeId} (h : But b w w') (hb : w.heap[b]? = some (.cells cs T)) (hT : T ≠ 57) : CS w w' := fun g cs' hg => h.block g (by
 rintro rfl
 rw [hb] at hg
 simp only [Option.some.injEq, Obj.cells.injEq] at hg
 exact hT hg.2.1)
theorem CS.grown {w w' : World} {ob : Option Nat} (h : w.grownBy w' ob) (ht : ∀ (g : Nat), ob = some g → ∃ (cs : Array Value) (T : TypeId), w.heap[g]? = some (Obj.cells cs T) ∧ T ≠ 57) : CS w w' := fun g cs hg => h.block g (lt_of hg) (by
 intro e
 obtain ⟨cs', T, h1, h2⟩ := ht g e.symm
 rw [hg] at h1
 simp only [Option.some.injEq, Obj.cells.injEq] at h1
 exact h2 h1.2.1.symm)
theorem own_cs {w w' : World} {base size : Nat} {v : Value} {n : Nat} {xs : List Value} (h : w.ownsRow base 57 size v n xs) (hp : CS w w') : w'.ownsRow base 57 size v n xs := by
 rcases h.2 with ⟨e1, e2⟩ | ⟨g, cap', cur, hv, hb', hg, hx1, hx2, hx3, hx4⟩
 · exact ⟨h.1, .inl ⟨e1, e2⟩⟩
 · exact ⟨h.1, .inr ⟨g, cap', cur, hv, hb', (hp g _ hg).trans hg, hx1, hx2, hx3, hx4⟩⟩
structure OkM (base : Nat) (w : World) (O : Okr) (vd vb : Value) (ds : List (Dq × Value)) : Prop where
 dl : ds.map (·.1) = O.deals
 dr : w.ownsRow base 54 6 vd ds.length (dqsCs ds)
 ops : ∀ (k : Nat) (p : Dq × Value), ds[k]? = some p → ∃ cs, w.ownsRow base 57 9 p.2 p.1.ops.length cs ∧ Cqs 0 w p.1.ops cs
 bd : w.ownsRow base 162 2 vb O.bonds.length (pairCs O.bonds)
theorem OkM.nil (base : Nat) (w : World) : OkM base w ⟨[], [], 0⟩ (.slice none 0 0) (.slice none 0 0) [] := ⟨rfl, World.ownsRow_nil _ _ _ _, (fun k p h => by cases h), World.ownsRow_nil _ _ _ _⟩
theorem OkM.len {base : Nat} {w : World} {O : Okr} {vd vb : Value} {ds : List (Dq × Value)} (h : OkM base w O vd vb ds) : ds.length = O.deals.length := by rw [← h.dl]; simp
theorem OkM.get {base : Nat} {w : World} {O : Okr} {vd vb : Value} {ds : List (Dq × Value)} (h : OkM base w O vd vb ds) {k : Nat} {d : Dq} (hk : O.deals[k]? = some d) : ∃ v, ds[k]? = some (d, v) := by
 rw [← h.dl, List.getElem?_map] at hk
 cases hq : ds[k]? with
 | none => rw [hq] at hk; cases hk
 | some x =>
  rw [hq] at hk
  obtain rfl := Option.some.inj hk
  exact ⟨x.2, rfl⟩
theorem OkM.below {base : Nat} {w w' : World} {O : Okr} {vd vb : Value} {ds : List (Dq × Value)} (h : OkM base w O vd vb ds) (hb : Below w.heap.size w w') : OkM base w' O vd vb ds :=
 ⟨h.dl, own_same h.dr fun g hg => hb.block g (h.dr.lt g hg).2, fun k p hk => let ⟨cs, h1, h2⟩ := h.ops k p hk; ⟨cs, own_cs h1 (CS.below hb), h2.ps (PS.below hb)⟩, own_same h.bd fun g hg => hb.block g (h.bd.lt g hg).2⟩
theorem at_no (v : Value) (a : Option Addr) (n c : Nat) (id : Int) (hi : id < 1 ∨ (n : Int) < id) (w : World) : Calls Tryz.prog 68 #[.slice a n c, .int .i64 id] w fun e w' => e = .returned (.int .i64 (-1)) ∧ w = w' := by
 have hd : ((id < 1) = True ∧ decide (id < 1) = true) ∨ ((id < 1) = False ∧ decide (id < 1) = false ∧ ((n : Int) < id) = True ∧ decide ((n : Int) < id) = true) := by
  by_cases h : id < 1
  · exact .inl ⟨by simp [h], by simp [h]⟩
  · have h2 := hi.resolve_left h
    exact .inr ⟨by simp [h], by simp [h], by simp [h2], by simp [h2]⟩
 clear hi
 rcases hd with ⟨d1, d2⟩ | ⟨d1, d2, d3, d4⟩
 all_goals (
  go_enter Tryz.func68, Tryz.ntmps68
  go_wp2
  go_ret
  exact ⟨rfl, rfl⟩
 )
theorem at_yes (a : Option Addr) (n c k : Nat) (hk : k < n) (hn : n < 1000000) (w : World) : Calls Tryz.prog 68 #[.slice a n c, .int .i64 ((k + 1 : Nat) : Int)] w fun e w' => e = .returned (.int .i64 (k : Int)) ∧ w = w' := by
 have d1 : (((k + 1 : Nat) : Int) < 1) = False := by simp; omega
 have d2 : decide (((k + 1 : Nat) : Int) < 1) = false := by simp; omega
 have d3 : ((n : Int) < ((k + 1 : Nat) : Int)) = False := by simp; omega
 have d4 : decide ((n : Int) < ((k + 1 : Nat) : Int)) = false := by simp; omega
 have m1 : IntKind.i64.wrap (((k + 1 : Nat) : Int) - 1) = (k : Int) := by rw [IntKind.wrap_i64]; omega
 clear hk hn
 generalize ((k + 1 : Nat) : Int) = z at *
 go_enter Tryz.func68, Tryz.ntmps68
 go_wp2
 go_ret
 exact ⟨rfl, rfl⟩
end Go.Proofs.YtbefcdjcefmicaaGreat.Em