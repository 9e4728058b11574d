/- Contract of plan.Encode: entries as bytes. -/
import Derived.Test.YtplfhjahdepphaaPlanN
namespace Go.Proofs.Ytplfhjahdepphaa.Plan
open Go.ChangeShapes Go.WideShapes Go.ChangeAt Go.RowKit
set_option linter.unusedVariables false
set_option linter.unusedSimpArgs false
set_option maxRecDepth 100000

def bytesE (e : En) : List Int := [c0 e, e.s, c2 e, e.oy, c4 e]
def bytesL (l : List En) : List Int := l.flatMap bytesE
def u8s (l : List Int) : List Value := l.map (Value.int .u8)
theorem u8s_append (a b : List Int) : u8s (a ++ b) = u8s a ++ u8s b := List.map_append ..
theorem bytesL_length (l : List En) : (bytesL l).length = 5 * l.length := by
  induction l with
  | nil => rfl
  | cons e l ih =>
    show (bytesE e ++ bytesL l).length = _
    rw [List.length_append, ih, List.length_cons]
    show 5 + _ = _
    omega
theorem bytesL_snoc (l : List En) (e : En) : bytesL (l ++ [e]) = bytesL l ++ bytesE e := by
  unfold bytesL; rw [List.flatMap_append]; simp
theorem oneCell_u8s (l : List Int) : ∀ u ∈ u8s l, u.oneCell' = true := by
  intro u hu
  unfold u8s at hu
  rw [List.mem_map] at hu
  obtain ⟨x, _, rfl⟩ := hu
  rfl
theorem u8s_length (l : List Int) : (u8s l).length = l.length := List.length_map ..
theorem u8s_get (l : List Int) (j : Nat) (h : j < l.length) : (u8s l)[j]? = some (.int .u8 (l.getD j 0)) := by
  unfold u8s
  simp [List.getElem?_eq_getElem h, List.getD_eq_getElem?_getD]

theorem infoB : (Try.prog.info? 5).map (fun i => (i.zero, i.size, i.bytes)) = some (some (.int .u8 0), 1, 1) := by kernel_rfl

/-- Bytes are put behind a row of bytes. -/
theorem append_B {ops : Array Oper} {rest : List Oper} {o : Oper} {a : Act} {Q : Exit → Act → World → Prop} (w : World) (hgd : o.guard = none) (s x : Operand)
    (ho : o.op = .call { callee := .builtin .append, args := #[s, x], argTypes := #[43, 43] })
    (base : Nat) (v : Value) (n : Nat) (xs : List Value) (hs : a.eval s = v) (hown : w.ownsRow base 5 1 v n xs)
    (ad : Addr) (m c : Nat) (news : List Value) (hx : a.eval x = .slice (some ad) m c) (hl : news.length = m) (hnews : ∀ j u, news[j]? = some u → w.cell? (ad.add j) = some u) (h1 : ∀ u ∈ news, u.oneCell' = true)
    (hn : n + m < 1000000) (hbase : base ≤ w.heap.size)
    (h : ∀ v' w', w'.ownsRow base 5 1 v' (n + m) (xs ++ news) → w.grownBy w' v.ownBlock → wpList Try.prog ops Q rest (a.put o.dst v') w') : wpList Try.prog ops Q (o :: rest) a w := by
  obtain ⟨i0, hi, hz0, hz1, hz2⟩ := info_parts infoB
  exact wpList_append_own w hgd s x _ ho base _ i0 _ 1 1 Try.underlying43 hi hz0 hz1 hz2 rfl (by decide) v n xs hs hown ad m c news hx (by omega) hnews h1 (by unfold maxLen; omega) (by omega) hbase (fun v' w' h2 h3 _ => h v' w' h2 h3)

theorem clipB_any (a : Option Addr) (n cap : Nat) (h : n ≤ cap) (hm : cap ≤ 9223372036854775807) (w : World) :
    Calls Try.prog 59 #[.slice a n cap] w fun e w' => e = .returned (.slice a n n) ∧ w = w' := by
  have h1 : (n : Int) ≤ (cap : Int) := by omega
  go_enter Try.func59, Try.ntmps59
  go_wp2
  go_ret
  exact ⟨rfl, rfl⟩

/-- Five cells at the head of a block, as a list. -/
theorem five_cells {w : World} {g : Nat} {b0 b1 b2 b3 b4 : Int} (x0 : w.cell? ⟨g, 0, none⟩ = some (.int .u8 b0)) (x1 : w.cell? ⟨g, 1, none⟩ = some (.int .u8 b1)) (x2 : w.cell? ⟨g, 2, none⟩ = some (.int .u8 b2)) (x3 : w.cell? ⟨g, 3, none⟩ = some (.int .u8 b3)) (x4 : w.cell? ⟨g, 4, none⟩ = some (.int .u8 b4)) :
    ∀ j u, (u8s [b0, b1, b2, b3, b4])[j]? = some u → w.cell? ((⟨g, 0, none⟩ : Addr).add j) = some u := by
  intro j u h
  have e : (⟨g, 0, none⟩ : Addr).add j = ⟨g, j, none⟩ := by simp [Addr.add]; exact fun h => h.symm
  rw [e]
  match j, h with
  | 0, h => simp [u8s] at h; subst h; exact x0
  | 1, h => simp [u8s] at h; subst h; exact x1
  | 2, h => simp [u8s] at h; subst h; exact x2
  | 3, h => simp [u8s] at h; subst h; exact x3
  | 4, h => simp [u8s] at h; subst h; exact x4
  | j + 5, h => simp [u8s] at h

/-- What Encode answers. -/
def EncPost (w : World) (es : List En) (z : Ending) (w' : World) : Prop :=
  Below w.heap.size w w' ∧ (((∀ e ∈ es, V e) ∧ ∃ a n, z = .returned (.tuple #[.slice a n n, .int .i64 0]) ∧ Ow.Row w' w.heap.size 1 (.slice a n n) (u8s (bytesL es))) ∨
    ((¬ ∀ e ∈ es, V e) ∧ z = .returned (.tuple #[.slice none 0 0, .int .i64 1])))
/-- What the loop of Encode keeps. -/
def EncRel (w : World) (es : List En) (k : Nat) (v i : Value) (wr : World) : Prop :=
  k ≤ es.length ∧ i = .int .i64 k ∧ wr.ownsRow w.heap.size 5 1 v (5 * k) (u8s (bytesL (es.take k))) ∧ Below w.heap.size w wr ∧ ∀ e ∈ es.take k, V e

set_option maxHeartbeats 2000000 in
theorem encode_any (v : Value) (es : List En) (hi : ∀ e ∈ es, I64 e) (hl : es.length ≤ 2000) (w : World) (hr : Ow.Row w 0 7 v (flatE es)) :
    Calls Try.prog 45 #[v] w (EncPost w es) := by
  obtain ⟨a, n, cap, rfl, hn, hc, hm, ha⟩ := hr
  rw [flatE_length] at hn
  obtain rfl : n = es.length := by omega
  obtain ⟨n, hlen⟩ : ∃ n, es.length = n := ⟨_, rfl⟩
  have HN := Lib.hid hlen
  rw [hlen] at hl hc ha ⊢
  have hl1 : (n : Int) ≤ 2000 := by omega
  have HI := Lib.hid hi
  clear hn hm hlen hi
  go_enter Try.func45, Try.ntmps45
  go_wp2
  go_loopw [4, 14] (fun v i wr => ∃ k, EncRel w es k v i wr) (fun _ i _ => n - (intOf i).toNat)
  case atStart => exact ⟨0, by omega, rfl, World.ownsRow_nil _ _ _ _, Below.refl _ _, by simp⟩
  case round =>
    obtain ⟨k, hk, rfl, hown, hbel, hall⟩ := hrel
    have hkn : k ≤ n := by rw [HN.out] at hk; exact hk
    obtain ⟨a2, cap2, rfl, hn2, hm2, hrow⟩ := Ow.own_form hown
    by_cases hlt : k < n
    · rcases ha with ha | ⟨g, off, rfl, _, hg, hcell⟩
      · omega
      have i1 : (0 : Int) ≤ (k : Int) := by omega
      have i2 : (k : Int) < (n : Int) := by omega
      have hN := HN.out
      have cA := row_cell (l := es) (fun j hj => hcell j (by omega)) k (by omega) badE
      have hget : es.getD k badE = es[k]'(by omega) := by simp [List.getD_eq_getElem?_getD, List.getElem?_eq_getElem (show k < es.length by omega)]
      have htake : es.take (k + 1) = es.take k ++ [es.getD k badE] := by rw [hget, List.take_succ_eq_append_getElem (by omega)]
      have hmem : es.getD k badE ∈ es := by rw [hget]; exact List.getElem_mem _
      have hEi := HI.out _ hmem
      generalize es.getD k badE = E at *
      have HA := Lib.hid hall
      have HT := Lib.hid htake
      have HM := Lib.hid hmem
      have hb5 : (bytesL (es.take k)).length = 5 * k := by rw [bytesL_length, List.length_take]; omega
      have hLE : k + 1 ≤ es.length := by omega
      have HLE := Lib.hid hLE
      by_cases hv : V E
      · have hv2 : ∀ e ∈ es.take (k + 1), V e := by
          intro e he
          rw [htake] at he
          rcases List.mem_append.1 he with he | he
          · exact hall e he
          · simp at he; subst he; exact hv
        have HV := Lib.hid hv2
        have HP := Lib.hid (fun w => put_v E hv w)
        have hE : bytesL (es.take (k + 1)) = bytesL (es.take k) ++ [c0 E, E.s, c2 E, E.oy, c4 E] := by rw [htake, bytesL_snoc]; rfl
        have HE := Lib.hid hE
        clear hv2 hE hv hEi hget hN hall htake hmem hLE
        generalize c0 E = b0 at *
        generalize c2 E = b2 at *
        generalize c4 E = b4 at *
        obtain ⟨ek, es', elv, eok, eoy, eoh, eov⟩ := E
        simp only at HP HE
        have kA : ∀ f, f < 7 → wr.cell? ⟨g, off + (k * 7 + f), none⟩ = (cellsE ⟨ek, es', elv, eok, eoy, eoh, eov⟩)[f]? := fun f hf => by rw [hbel.cell (p := ⟨g, off + (k * 7 + f), none⟩) hg]; exact cA f hf
        clear cA hcell
        have a0 := kA 0 (by omega)
        have a1 := kA 1 (by omega)
        have a2' := kA 2 (by omega)
        have a3 := kA 3 (by omega)
        have a4 := kA 4 (by omega)
        have a5 := kA 5 (by omega)
        have a6 := kA 6 (by omega)
        clear kA
        simp only [Nat.add_zero, ← Nat.add_assoc] at a0 a1 a2' a3 a4 a5 a6
        simp only [cellsE, List.getElem?_cons_zero, List.getElem?_cons_succ] at a0 a1 a2' a3 a4 a5 a6
        go_wp2_with fail
        refine (HP.out _).mono ?_
        rintro z w1 ⟨g1, rfl, hg1, hg1', hq, x0, x1, x2, x3, x4⟩
        have hq2 : Below wr.heap.size wr w1 := (below_allocs1 wr _).trans (hq.mono (by simp))
        have hbel1 := Ow.below_base hbel hq2
        have hown1 := Ow.own_below hown hq2
        have hsz := hbel1.size
        clear hown hbel hq hq2 a0 a1 a2' a3 a4 a5 a6
        go_wp2_with (at_builtin; refine append_B _ rfl (.tmp 25) (.tmp 26) rfl w.heap.size (.slice a2 (5 * k) cap2) (5 * k) _ rfl hown1 ⟨g1, 0, none⟩ 5 5 (u8s [b0, es', b2, eoy, b4]) rfl rfl (five_cells x0 x1 x2 x3 x4) (oneCell_u8s _) (by omega) (by omega) ?_)
        intro v' w2 hown2 hg2
        have hbel2 : Below w.heap.size w w2 := Ow.grown_below hown1 hbel1 hsz hg2
        rw [← u8s_append, ← HE.out, show 5 * k + 5 = 5 * (k + 1) from by omega] at hown2
        clear hg2 hown1 hbel1 x0 x1 x2 x3 x4
        go_wp2_with fail
        exact ⟨⟨k + 1, HLE.out, by go_num, hown2, hbel2, HV.out⟩, by simp [intOf]; omega⟩
      · have HP := Lib.hid (fun w => put_nv E hv hEi w)
        have hno : ¬ ∀ e ∈ es, V e := fun h => hv (h E hmem)
        have HO := Lib.hid hno
        clear hno hv hEi hget hN hall htake hmem hLE
        obtain ⟨ek, es', elv, eok, eoy, eoh, eov⟩ := E
        have kA : ∀ f, f < 7 → wr.cell? ⟨g, off + (k * 7 + f), none⟩ = (cellsE ⟨ek, es', elv, eok, eoy, eoh, eov⟩)[f]? := fun f hf => by rw [hbel.cell (p := ⟨g, off + (k * 7 + f), none⟩) hg]; exact cA f hf
        clear cA hcell
        have a0 := kA 0 (by omega)
        have a1 := kA 1 (by omega)
        have a2' := kA 2 (by omega)
        have a3 := kA 3 (by omega)
        have a4 := kA 4 (by omega)
        have a5 := kA 5 (by omega)
        have a6 := kA 6 (by omega)
        clear kA
        simp only [Nat.add_zero, ← Nat.add_assoc] at a0 a1 a2' a3 a4 a5 a6
        simp only [cellsE, List.getElem?_cons_zero, List.getElem?_cons_succ] at a0 a1 a2' a3 a4 a5 a6
        go_wp2_with fail
        refine (HP.out _).mono ?_
        rintro z w1 ⟨v1, rfl, hq⟩
        have hq2 : Below wr.heap.size wr w1 := (below_allocs1 wr _).trans (hq.mono (by simp))
        have hbel1 := Ow.below_base hbel hq2
        clear hown hbel hq hq2 a0 a1 a2' a3 a4 a5 a6
        go_wp2_with fail
        go_ret2
        exact ⟨hbel1, .inr ⟨HO.out, rfl⟩⟩
    · obtain rfl : k = n := by omega
      have hN := HN.out
      rw [List.take_of_length_le (by omega)] at hall hrow
      have HA := Lib.hid hall
      have HR := Lib.hid hrow
      clear hall hrow hown hN
      go_wp2_with (go_at_call 59; refine (clipB_any _ _ _ hn2 hm2 _).mono ?_; rintro e w' ⟨rfl, rfl⟩)
      go_ret2
      exact ⟨hbel, .inl ⟨HA.out, _, _, rfl, HR.out⟩⟩

theorem encode_long (a : Option Addr) (len cap : Nat) (hl : 2000 < len) (w : World) :
    Calls Try.prog 45 #[.slice a len cap] w fun z w' => z = .returned (.tuple #[.slice none 0 0, .int .i64 1]) ∧ w = w' := by
  have h1 : (2000 : Int) < (len : Int) := by omega
  clear hl
  go_enter Try.func45, Try.ntmps45
  go_wp2
  go_ret2
  exact ⟨rfl, rfl⟩
end Go.Proofs.Ytplfhjahdepphaa.Plan
