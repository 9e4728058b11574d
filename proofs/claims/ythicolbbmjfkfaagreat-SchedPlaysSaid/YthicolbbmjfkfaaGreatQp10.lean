import Derived.Test.YthicolbbmjfkfaaGreatQp2
import Derived.LoopTactic
namespace Go.Proofs.YthicolbbmjfkfaaGreat.Plan
open Go.ChangeShapes Go.WideShapes Go.ChangeAt Go.RowKit
set_option linter.unusedVariables false
set_option linter.unusedSimpArgs false
set_option maxRecDepth 100000
set_option maxHeartbeats 1600000
theorem entry_big (B off len cap:Nat) (hl:5≤len) (b0 b1 b2 b3 b4:Int) (p0:0≤b0) (q0:b0<256) (p1:0≤b1) (q1:b1<256) (p2:0≤b2) (q2:b2<256) (p3:0≤b3) (q3:b3<256) (p4:0≤b4) (q4:b4<256) (w:World) (c0:w.cell? ⟨B,off,none⟩=some (.int .u8 b0)) (c1:w.cell? ⟨B,off+1,none⟩=some (.int .u8 b1)) (c2:w.cell? ⟨B,off+2,none⟩=some (.int .u8 b2)) (c3:w.cell? ⟨B,off+3,none⟩=some (.int .u8 b3)) (c4:w.cell? ⟨B,off+4,none⟩=some (.int .u8 b4)) (h1:8≤b1):
 Calls Tryz.prog 89 #[.slice (some ⟨B,off,none⟩) len cap] w fun e w'=>e=.returned (enV badE)∧Below w.heap.size w w':=by
 have t0:decide (8≤b1)=true:=by simp<;>omega
 clear h1;have hB:B<w.heap.size:=World.block_lt_of_cell? w _ c0;have hB1:B<w.heap.size+1:=by omega
 have hB2:B<w.heap.size+1+1:=by omega
 unfold enV badE;have q:(b3 !=0)=true∨(b3 !=0)=false∧((b4 !=0)=true∨(b4 !=0)=false):=by
  cases (b3 !=0)<;>cases (b4 !=0)<;>simp
 rcases q with t5|⟨t5,t6|t6⟩
 all_goals (
  go_enter Tryz.func89,Tryz.ntmps89
  go_wp2_with (go_at_call 91;refine (bad_any _).mono ?_;rintro e w' ⟨rfl,rfl⟩)
  exact bodyPost_ret (v:=enV badE) (by simp[results,Tryz.results89,go_sem,badE]) rfl ⟨rfl,by first|exact below_allocs1 _ _|exact below_allocs2 _ _ _|exact below_allocs3 _ _ _ _⟩)
theorem entry_b1 (B off len cap:Nat) (hl:5≤len) (b0 b1 b2 b3 b4:Int) (p0:0≤b0) (q0:b0<256) (p1:0≤b1) (q1:b1<256) (p2:0≤b2) (q2:b2<256) (p3:0≤b3) (q3:b3<256) (p4:0≤b4) (q4:b4<256) (w:World) (c0:w.cell? ⟨B,off,none⟩=some (.int .u8 b0)) (c1:w.cell? ⟨B,off+1,none⟩=some (.int .u8 b1)) (c2:w.cell? ⟨B,off+2,none⟩=some (.int .u8 b2)) (c3:w.cell? ⟨B,off+3,none⟩=some (.int .u8 b3)) (c4:w.cell? ⟨B,off+4,none⟩=some (.int .u8 b4)) (h1:b1<8) (h0:b0=1):
 Calls Tryz.prog 89 #[.slice (some ⟨B,off,none⟩) len cap] w fun e w'=>e=.returned (enV (isE b1 b2 b3 b4))∧Below w.heap.size w w':=by
 have t0:decide (8≤b1)=false:=by simp<;>omega
 have t1:(b0+1==1)=false:=by simp<;>omega
 have t2:(b0+1==2)=true:=by simp<;>omega
 have t3:(b0+1==3)=false:=by simp<;>omega
 have t4:(b0+1==4)=false:=by simp<;>omega
 clear h1 h0;have q:(b3 !=0)=true∨(b3 !=0)=false∧((b4 !=0)=true∨(b4 !=0)=false):=by
  cases (b3 !=0)<;>cases (b4 !=0)<;>simp
 have hB:B<w.heap.size:=World.block_lt_of_cell? w _ c0;have hB1:B<w.heap.size+1:=by omega
 have hB2:B<w.heap.size+1+1:=by omega
 have HI:=Lib.hid (fun w=>issue_any b1 b2 b3 b4 p2 q2 p3 q3 p4 q4 w);generalize isE b1 b2 b3 b4=E at*;obtain⟨ek,es,elv,eok,eoy,eoh,eov⟩:=E;have i2:(2:Int)<(len:Int):=by omega
 have i3:(3:Int)<(len:Int):=by omega
 have i4:(4:Int)<(len:Int):=by omega
 rcases q with t5|⟨t5,t6|t6⟩
 all_goals (
  go_enter Tryz.func89,Tryz.ntmps89
  go_wp2_with fail
  refine wp_region_held_drew (S:=(fun w'=>w'.cell? ⟨B,off+2,none⟩=some (.int .u8 b2)∧w'.cell? ⟨B,off+3,none⟩=some (.int .u8 b3)∧w'.cell? ⟨B,off+4,none⟩=some (.int .u8 b4))) (by kernel_rfl) ?_ (fun hHeld=>?_)
  · (try dsimp only);exact⟨by go_simp,by go_simp,by go_simp⟩
  refine wpAnyH_take (i:=0) (v:=?_) rfl (by kernel_rfl) (by kernel_rfl) (by kernel_rfl) (fun _ _ _ h=>h) (Or.inl ⟨by rfl,?_⟩) hHeld ?_
  rotate_left
  · (intro w hSw;(try dsimp only at hSw);go_simp;(try with_reducible rfl))
  (try simp only[List.getElem_toArray,List.getElem_cons_succ,List.getElem_cons_zero,Act.put,List.setIfInBounds_toArray,List.set_cons_zero,List.set_cons_succ])
  refine wpAnyH_take (i:=1) (v:=?_) rfl (by kernel_rfl) (by kernel_rfl) (by kernel_rfl) (fun _ _ _ h=>h) (Or.inl ⟨by rfl,?_⟩) hHeld ?_
  rotate_left
  · (intro w hSw;(try dsimp only at hSw);go_simp;(try with_reducible rfl))
  (try simp only[List.getElem_toArray,List.getElem_cons_succ,List.getElem_cons_zero,Act.put,List.setIfInBounds_toArray,List.set_cons_zero,List.set_cons_succ])
  refine wpAnyH_take (i:=2) (v:=?_) rfl (by kernel_rfl) (by kernel_rfl) (by kernel_rfl) (fun _ _ _ h=>h) (Or.inl ⟨by rfl,?_⟩) hHeld ?_
  rotate_left
  · (intro w hSw;(try dsimp only at hSw);go_simp;(try with_reducible rfl))
  (try simp only[List.getElem_toArray,List.getElem_cons_succ,List.getElem_cons_zero,Act.put,List.setIfInBounds_toArray,List.set_cons_zero,List.set_cons_succ])
  refine wpAnyH_take (i:=3) (v:=?_) rfl (by kernel_rfl) (by kernel_rfl) (by kernel_rfl) (fun _ _ _ h=>h) (Or.inl ⟨by rfl,?_⟩) hHeld ?_
  rotate_left
  · (intro w hSw;(try dsimp only at hSw);go_simp;(try with_reducible rfl))
  (try simp only[List.getElem_toArray,List.getElem_cons_succ,List.getElem_cons_zero,Act.put,List.setIfInBounds_toArray,List.set_cons_zero,List.set_cons_succ])
  refine wpAnyH_take (i:=4) (v:=?_) rfl (by kernel_rfl) (by kernel_rfl) (by kernel_rfl) (fun _ _ _ h=>h) (Or.inl ⟨by rfl,?_⟩) hHeld ?_
  rotate_left
  · (intro w hSw;(try dsimp only at hSw);go_simp;(try with_reducible rfl))
  (try simp only[List.getElem_toArray,List.getElem_cons_succ,List.getElem_cons_zero,Act.put,List.setIfInBounds_toArray,List.set_cons_zero,List.set_cons_succ])
  refine wpAnyH_take (i:=5) (v:=?_) rfl (by kernel_rfl) (by kernel_rfl) (by kernel_rfl) (fun _ _ _ h=>h) (Or.inl ⟨by rfl,?_⟩) hHeld ?_
  rotate_left
  · (intro w hSw;(try dsimp only at hSw);go_simp;(try with_reducible rfl))
  (try simp only[List.getElem_toArray,List.getElem_cons_succ,List.getElem_cons_zero,Act.put,List.setIfInBounds_toArray,List.set_cons_zero,List.set_cons_succ])
  refine wpAnyH_take (i:=6) (v:=?_) rfl (by kernel_rfl) (by kernel_rfl) (by kernel_rfl) (fun _ _ _ h=>h) (Or.inl ⟨by rfl,?_⟩) hHeld ?_
  rotate_left
  · (intro w hSw;(try dsimp only at hSw);go_simp;(try with_reducible rfl))
  (try simp only[List.getElem_toArray,List.getElem_cons_succ,List.getElem_cons_zero,Act.put,List.setIfInBounds_toArray,List.set_cons_zero,List.set_cons_succ])
  refine wpAnyH_take (i:=7) (v:=?_) rfl (by kernel_rfl) (by kernel_rfl) (by kernel_rfl) (fun _ _ _ h=>h) (Or.inl ⟨by rfl,?_⟩) hHeld ?_
  rotate_left
  · (intro w hSw;(try dsimp only at hSw);go_simp;(try with_reducible rfl))
  (try simp only[List.getElem_toArray,List.getElem_cons_succ,List.getElem_cons_zero,Act.put,List.setIfInBounds_toArray,List.set_cons_zero,List.set_cons_succ])
  refine wpAnyH_take (i:=8) (v:=?_) rfl (by kernel_rfl) (by kernel_rfl) (by kernel_rfl) (fun _ _ _ h=>h) (Or.inl ⟨by rfl,?_⟩) hHeld ?_
  rotate_left
  · (intro w hSw;(try dsimp only at hSw);go_simp;(try with_reducible rfl))
  (try simp only[List.getElem_toArray,List.getElem_cons_succ,List.getElem_cons_zero,Act.put,List.setIfInBounds_toArray,List.set_cons_zero,List.set_cons_succ])
  refine wpAnyH_take (i:=9) (v:=?_) rfl (by kernel_rfl) (by kernel_rfl) (by kernel_rfl) (fun _ _ _ h=>h) (Or.inl ⟨by rfl,?_⟩) hHeld ?_
  rotate_left
  · (intro w hSw;(try dsimp only at hSw);go_simp;(try with_reducible rfl))
  (try simp only[List.getElem_toArray,List.getElem_cons_succ,List.getElem_cons_zero,Act.put,List.setIfInBounds_toArray,List.set_cons_zero,List.set_cons_succ])
  refine wpAnyH_ready (rs:=[10]) (by kernel_rfl) (by simp) ?_
  refine AllReadyH.cons (o:=_) rfl (fun K hK=>?_) ?_
  rotate_left
  · exact AllReadyH.nil
  go_simp
  (first|(go_at_call 112;refine (HI.out _).mono ?_;rintro e w1 ⟨rfl,hq⟩))
  refine hK.out _ _ ?_ (fun hHeld=>?_)
  · (try dsimp only);exact⟨(hq.cell (p:=⟨B,off+2,none⟩) (by simp;omega)).trans hHeld.1,(hq.cell (p:=⟨B,off+3,none⟩) (by simp;omega)).trans hHeld.2.1,(hq.cell (p:=⟨B,off+4,none⟩) (by simp;omega)).trans hHeld.2.2⟩
  clear hK K
  (try simp only[List.getElem_toArray,List.getElem_cons_succ,List.getElem_cons_zero,Act.put,List.setIfInBounds_toArray,List.set_cons_zero,List.set_cons_succ])
  refine wpAnyH_ready (rs:=[11]) (by kernel_rfl) (by simp) ?_
  refine AllReadyH.cons (o:=_) rfl (fun K hK=>?_) ?_
  rotate_left
  · exact AllReadyH.nil
  rw[if_pos (by rfl)]
  refine wp_store_row 71 _ _ rfl w.heap.size #[.int .i64 ek,.int .i64 es,.int .i64 elv,.int .i64 eok,.int .i64 eoy,.int .i64 eoh,.int .i64 eov] rfl rfl 71 #[.int .i64 0,.int .i64 0,.int .i64 0,.int .i64 0,.int .i64 0,.int .i64 0,.int .i64 0] ((hq.block w.heap.size (by simp)).trans (by show (w.heap.push _)[w.heap.size]? =_;simp)) (by kernel_rfl) rfl (by simp[Value.oneCell']) ?_
  refine hK.out _ _ ?_ (fun hHeld=>?_)
  · (try dsimp only);exact⟨(cell_setRow_other _ _ _ _ (by simp;omega)).trans hHeld.1,(cell_setRow_other _ _ _ _ (by simp;omega)).trans hHeld.2.1,(cell_setRow_other _ _ _ _ (by simp;omega)).trans hHeld.2.2⟩
  clear hK K
  (try simp only[List.getElem_toArray,List.getElem_cons_succ,List.getElem_cons_zero,Act.put,List.setIfInBounds_toArray,List.set_cons_zero,List.set_cons_succ])
  refine wpAnyH_done (by kernel_rfl) ?_ _
  have hg:w1.heap[w.heap.size]? =some (.cells #[.int .i64 0,.int .i64 0,.int .i64 0,.int .i64 0,.int .i64 0,.int .i64 0,.int .i64 0] 71 (0,0)):=(hq.block w.heap.size (by simp)).trans (by show (w.heap.push _)[w.heap.size]? =_;simp)
  have r:∀ j,(w1.setRow w.heap.size #[.int .i64 ek,.int .i64 es,.int .i64 elv,.int .i64 eok,.int .i64 eoy,.int .i64 eoh,.int .i64 eov]).cell? ⟨w.heap.size,j,none⟩=(#[.int .i64 ek,.int .i64 es,.int .i64 elv,.int .i64 eok,.int .i64 eoy,.int .i64 eoh,.int .i64 eov]:Array Value)[j]? :=fun j=>cell_setRow_same _ _ _ _ _ _ _ hg
  have r0:=r 0
  have r1:=r 1
  have r2:=r 2
  have r3:=r 3
  have r4:=r 4
  have r5:=r 5
  have r6:=r 6
  clear r
  simp at r0 r1 r2 r3 r4 r5 r6
  have hfin:Below w.heap.size w (w1.setRow w.heap.size #[.int .i64 ek,.int .i64 es,.int .i64 elv,.int .i64 eok,.int .i64 eoy,.int .i64 eoh,.int .i64 eov]):=below_setRow ((below_allocs1 w _).drew.trans (hq.mono (by simp))) (Nat.le_refl _) _
  generalize (w1.setRow w.heap.size #[.int .i64 ek,.int .i64 es,.int .i64 elv,.int .i64 eok,.int .i64 eoy,.int .i64 eoh,.int .i64 eov])=wf at*
  go_wp2
  exact bodyPost_ret (v:=.agg #[.int .i64 ek,.int .i64 es,.int .i64 elv,.int .i64 eok,.int .i64 eoy,.int .i64 eoh,.int .i64 eov]) (by simp[results,Tryz.results89,go_sem,r0,r1,r2,r3,r4,r5,r6]) rfl ⟨rfl,hfin⟩)
set_option maxHeartbeats 4000000 in
theorem entry_no1 (B off len cap:Nat) (hl:5≤len) (b0 b1 b2 b3 b4:Int) (p0:0≤b0) (q0:b0<256) (p1:0≤b1) (q1:b1<256) (p2:0≤b2) (q2:b2<256) (p3:0≤b3) (q3:b3<256) (p4:0≤b4) (q4:b4<256) (h01:b0≠1) (w:World)
 (c0:w.cell? ⟨B,off,none⟩=some (.int .u8 b0)) (c1:w.cell? ⟨B,off+1,none⟩=some (.int .u8 b1)) (c2:w.cell? ⟨B,off+2,none⟩=some (.int .u8 b2)) (c3:w.cell? ⟨B,off+3,none⟩=some (.int .u8 b3)) (c4:w.cell? ⟨B,off+4,none⟩=some (.int .u8 b4)):
 Calls Tryz.prog 89 #[.slice (some ⟨B,off,none⟩) len cap] w fun e w'=>e=.returned (enV (enE b0 b1 b2 b3 b4))∧Below w.heap.size w w':=by
 have hB:B<w.heap.size:=World.block_lt_of_cell? w _ c0;have hB1:B<w.heap.size+1:=by omega
 have hB2:B<w.heap.size+1+1:=by omega
 have t1:(b0+1==2)=false:=by simp;omega
 have t2:(b0+1=2)=False:=by simp;omega
 have t3:(b0=1)=False:=by simp;omega
 obtain⟨E,hE⟩:∃ E,E=enE b0 b1 b2 b3 b4:=⟨_,rfl⟩
 have HE:=Lib.hid hE;rw[←hE];have HN:=Lib.hid h01;clear hE h01;unfold enV;have q:((b4 !=0)=true∧b4≠0)∨((b4 !=0)=false∧b4=0):=by
  by_cases h:b4=0
  · exact .inr ⟨by simp[h],h⟩
  · exact .inl ⟨by simp[h],h⟩
 rcases q with ⟨q,q0⟩|⟨q,q0⟩
 all_goals (
  have HQ:=Lib.hid q0
  clear q0
  go_enter Tryz.func89,Tryz.ntmps89
  go_wp2_with (go_at_call 91;refine (bad_any _).mono ?_;rintro e w' ⟨rfl,rfl⟩))
 all_goals (
  have hE:=HE.out
  have hN:=HN.out
  have hq:=HQ.out
  unfold enE at hE
  first
  | (rw [if_pos (by omega)] at hE
     subst hE
     exact bodyPost_ret (v:=enV badE) (by first|(simp[results,Tryz.results89,go_sem,badE];done)|(simp[results,Tryz.results89,go_sem,badE];omega)) rfl ⟨rfl,by first|exact below_allocs1 _ _|exact below_allocs2 _ _ _|exact below_allocs3 _ _ _ _⟩)
  | (rw [if_neg (by omega), if_pos (by omega)] at hE
     subst hE
     exact bodyPost_ret (v:=enV ⟨1,b1,b2,0,0,0,0⟩) (by first|(simp[results,Tryz.results89,go_sem];done)|(simp[results,Tryz.results89,go_sem];omega)) rfl ⟨rfl,by first|exact below_allocs1 _ _|exact below_allocs2 _ _ _|exact below_allocs3 _ _ _ _⟩)
  | (rw [if_neg (by omega), if_neg (by omega), if_neg (by omega), if_pos (by omega)] at hE
     subst hE
     exact bodyPost_ret (v:=enV ⟨b0+1,b1,0,0,0,0,0⟩) (by first|(simp[results,Tryz.results89,go_sem];done)|(simp[results,Tryz.results89,go_sem];omega)) rfl ⟨rfl,by first|exact below_allocs1 _ _|exact below_allocs2 _ _ _|exact below_allocs3 _ _ _ _⟩)
  | (rw [if_neg (by omega), if_neg (by omega), if_neg (by omega), if_neg (by omega)] at hE
     subst hE
     exact bodyPost_ret (v:=enV badE) (by first|(simp[results,Tryz.results89,go_sem,badE];done)|(simp[results,Tryz.results89,go_sem,badE];omega)) rfl ⟨rfl,by first|exact below_allocs1 _ _|exact below_allocs2 _ _ _|exact below_allocs3 _ _ _ _⟩)
)
theorem entry_any (B off len cap:Nat) (hl:5≤len) (b0 b1 b2 b3 b4:Int) (p0:0≤b0) (q0:b0<256) (p1:0≤b1) (q1:b1<256) (p2:0≤b2) (q2:b2<256) (p3:0≤b3) (q3:b3<256) (p4:0≤b4) (q4:b4<256) (w:World)
 (c0:w.cell? ⟨B,off,none⟩=some (.int .u8 b0)) (c1:w.cell? ⟨B,off+1,none⟩=some (.int .u8 b1)) (c2:w.cell? ⟨B,off+2,none⟩=some (.int .u8 b2)) (c3:w.cell? ⟨B,off+3,none⟩=some (.int .u8 b3)) (c4:w.cell? ⟨B,off+4,none⟩=some (.int .u8 b4)):
 Calls Tryz.prog 89 #[.slice (some ⟨B,off,none⟩) len cap] w fun e w'=>e=.returned (enV (enE b0 b1 b2 b3 b4))∧Below w.heap.size w w':=by
 by_cases h01:b0=1
 · by_cases h1:8≤b1
   · unfold enE
     rw[if_pos h1];exact entry_big B off len cap hl b0 b1 b2 b3 b4 p0 q0 p1 q1 p2 q2 p3 q3 p4 q4 w c0 c1 c2 c3 c4 h1
   · unfold enE
     rw[if_neg h1,if_neg (by omega),if_pos h01];exact entry_b1 B off len cap hl b0 b1 b2 b3 b4 p0 q0 p1 q1 p2 q2 p3 q3 p4 q4 w c0 c1 c2 c3 c4 (by omega) h01
 · exact entry_no1 B off len cap hl b0 b1 b2 b3 b4 p0 q0 p1 q1 p2 q2 p3 q3 p4 q4 h01 w c0 c1 c2 c3 c4
theorem enE_big {b0 b1 b2 b3 b4:Int} (h:3<b0):enE b0 b1 b2 b3 b4=badE:=by
 unfold enE
 by_cases h8:8≤b1
 · rw[if_pos h8]
 · rw[if_neg h8,if_neg (by omega),if_neg (by omega),if_neg (by omega)]
set_option maxHeartbeats 8000000 in
theorem rone_any (B off len cap:Nat) (hl:5≤len) (hm:len≤9223372036854775807) (b0 b1 b2 b3 b4:Int) (p0:0≤b0) (q0:b0<256) (p1:0≤b1) (q1:b1<256) (p2:0≤b2) (q2:b2<256) (p3:0≤b3) (q3:b3<256) (p4:0≤b4) (q4:b4<256) (w:World)
 (c0:w.cell? ⟨B,off,none⟩=some (.int .u8 b0)) (c1:w.cell? ⟨B,off+1,none⟩=some (.int .u8 b1)) (c2:w.cell? ⟨B,off+2,none⟩=some (.int .u8 b2)) (c3:w.cell? ⟨B,off+3,none⟩=some (.int .u8 b3)) (c4:w.cell? ⟨B,off+4,none⟩=some (.int .u8 b4)):
 Calls Tryz.prog 60 #[.slice (some ⟨B,off,none⟩) len cap] w fun e w'=>e=.returned (.tuple #[enV (enE b0 b1 b2 b3 b4),.bool true])∧Below w.heap.size w w':=by
 have i0:(5:Int)≤(len:Int):=by omega
 have i1:(0:Int)<(len:Int):=by omega
 have i2:(1:Int)<(len:Int):=by omega
 have i3:(2:Int)<(len:Int):=by omega
 have i4:(3:Int)<(len:Int):=by omega
 have i5:(4:Int)<(len:Int):=by omega
 have hB:B<w.heap.size:=World.block_lt_of_cell? w _ c0;have hB1:B<w.heap.size+1:=by omega
 have hB2:B<w.heap.size+1+1:=by omega
 obtain⟨E,hE⟩:∃ E,E=enE b0 b1 b2 b3 b4:=⟨_,rfl⟩
 have HE:=Lib.hid hE;rw[←hE];clear hE;unfold enV;go_enter Tryz.func60,Tryz.ntmps60;go_wp2
 go_quiet (fail)
 go_wp2
 all_goals (
  try simp only[bne_iff_ne,ne_eq,beq_iff_eq,bne_eq_false_iff_eq,beq_eq_false_iff_ne] at*
  have hE:=HE.out
  unfold enE isE at hE
  first
  | (rw [if_pos (by omega)] at hE
     subst hE
     exact bodyPost_ret (v:=.tuple #[enV badE,.bool true]) (by first|(simp[results,Tryz.results60,go_sem,badE];done)|(simp[results,Tryz.results60,go_sem,badE];omega)) rfl ⟨rfl,by (repeat (first|(with_reducible exact Below.refl _ _)|((with_reducible refine Below.setCell ?_ ?_ _);rotate_left;focus (first|(simp;done)|(simp;omega)))|(with_reducible refine below_drewN ?_ _)|(with_reducible refine Below.drew ?_)|((with_reducible refine Below.alloc ?_ ?_ _);rotate_left;focus (first|(simp;done)|(simp;omega)))))⟩)
  | (clear hE
     have hE:=HE.out
     rw[enE_big (by omega)] at hE
     subst hE
     exact bodyPost_ret (v:=.tuple #[enV badE,.bool true]) (by first|(simp[results,Tryz.results60,go_sem,badE];done)|(simp[results,Tryz.results60,go_sem,badE];omega)) rfl ⟨rfl,by (repeat (first|(with_reducible exact Below.refl _ _)|((with_reducible refine Below.setCell ?_ ?_ _);rotate_left;focus (first|(simp;done)|(simp;omega)))|(with_reducible refine below_drewN ?_ _)|(with_reducible refine Below.drew ?_)|((with_reducible refine Below.alloc ?_ ?_ _);rotate_left;focus (first|(simp;done)|(simp;omega)))))⟩)
  | (rw [if_neg (by omega), if_pos (by omega)] at hE
     subst hE
     exact bodyPost_ret (v:=.tuple #[enV ⟨1,b1,b2,0,0,0,0⟩,.bool true]) (by first|(simp[results,Tryz.results60,go_sem];done)|(simp[results,Tryz.results60,go_sem];omega)) rfl ⟨rfl,by (repeat (first|(with_reducible exact Below.refl _ _)|((with_reducible refine Below.setCell ?_ ?_ _);rotate_left;focus (first|(simp;done)|(simp;omega)))|(with_reducible refine below_drewN ?_ _)|(with_reducible refine Below.drew ?_)|((with_reducible refine Below.alloc ?_ ?_ _);rotate_left;focus (first|(simp;done)|(simp;omega)))))⟩)
  | (rw [if_neg (by omega), if_neg (by omega), if_pos (by omega), if_pos (by omega)] at hE
     subst hE
     exact bodyPost_ret (v:=.tuple #[enV badE,.bool true]) (by first|(simp[results,Tryz.results60,go_sem,badE];done)|(simp[results,Tryz.results60,go_sem,badE];omega)) rfl ⟨rfl,by (repeat (first|(with_reducible exact Below.refl _ _)|((with_reducible refine Below.setCell ?_ ?_ _);rotate_left;focus (first|(simp;done)|(simp;omega)))|(with_reducible refine below_drewN ?_ _)|(with_reducible refine Below.drew ?_)|((with_reducible refine Below.alloc ?_ ?_ _);rotate_left;focus (first|(simp;done)|(simp;omega)))))⟩)
  | (rw [if_neg (by omega), if_neg (by omega), if_pos (by omega), if_neg (by omega), if_pos (by omega)] at hE
     subst hE
     exact bodyPost_ret (v:=.tuple #[enV ⟨2,b1,0,5,b3,b4,0⟩,.bool true]) (by first|(simp[results,Tryz.results60,go_sem];done)|(simp[results,Tryz.results60,go_sem];omega)) rfl ⟨rfl,by (repeat (first|(with_reducible exact Below.refl _ _)|((with_reducible refine Below.setCell ?_ ?_ _);rotate_left;focus (first|(simp;done)|(simp;omega)))|(with_reducible refine below_drewN ?_ _)|(with_reducible refine Below.drew ?_)|((with_reducible refine Below.alloc ?_ ?_ _);rotate_left;focus (first|(simp;done)|(simp;omega)))))⟩)
  | (rw [if_neg (by omega), if_neg (by omega), if_pos (by omega), if_neg (by omega), if_neg (by omega), if_pos (by omega)] at hE
     subst hE
     exact bodyPost_ret (v:=.tuple #[enV ⟨2,b1,0,b2 / 8,b3,0,b4⟩,.bool true]) (by first|(simp[results,Tryz.results60,go_sem];done)|(simp[results,Tryz.results60,go_sem];omega)) rfl ⟨rfl,by (repeat (first|(with_reducible exact Below.refl _ _)|((with_reducible refine Below.setCell ?_ ?_ _);rotate_left;focus (first|(simp;done)|(simp;omega)))|(with_reducible refine below_drewN ?_ _)|(with_reducible refine Below.drew ?_)|((with_reducible refine Below.alloc ?_ ?_ _);rotate_left;focus (first|(simp;done)|(simp;omega)))))⟩)
  | (rw [if_neg (by omega), if_neg (by omega), if_pos (by omega), if_neg (by omega), if_neg (by omega), if_neg (by omega), if_pos (by omega)] at hE
     subst hE
     exact bodyPost_ret (v:=.tuple #[enV badE,.bool true]) (by first|(simp[results,Tryz.results60,go_sem,badE];done)|(simp[results,Tryz.results60,go_sem,badE];omega)) rfl ⟨rfl,by (repeat (first|(with_reducible exact Below.refl _ _)|((with_reducible refine Below.setCell ?_ ?_ _);rotate_left;focus (first|(simp;done)|(simp;omega)))|(with_reducible refine below_drewN ?_ _)|(with_reducible refine Below.drew ?_)|((with_reducible refine Below.alloc ?_ ?_ _);rotate_left;focus (first|(simp;done)|(simp;omega)))))⟩)
  | (rw [if_neg (by omega), if_neg (by omega), if_pos (by omega), if_neg (by omega), if_neg (by omega), if_neg (by omega), if_neg (by omega)] at hE
     subst hE
     exact bodyPost_ret (v:=.tuple #[enV ⟨2,b1,0,b2 / 8,b3,0,0⟩,.bool true]) (by first|(simp[results,Tryz.results60,go_sem];done)|(simp[results,Tryz.results60,go_sem];omega)) rfl ⟨rfl,by (repeat (first|(with_reducible exact Below.refl _ _)|((with_reducible refine Below.setCell ?_ ?_ _);rotate_left;focus (first|(simp;done)|(simp;omega)))|(with_reducible refine below_drewN ?_ _)|(with_reducible refine Below.drew ?_)|((with_reducible refine Below.alloc ?_ ?_ _);rotate_left;focus (first|(simp;done)|(simp;omega)))))⟩)
  | (rw [if_neg (by omega), if_neg (by omega), if_neg (by omega), if_pos (by omega)] at hE
     subst hE
     exact bodyPost_ret (v:=.tuple #[enV ⟨b0+1,b1,0,0,0,0,0⟩,.bool true]) (by first|(simp[results,Tryz.results60,go_sem];done)|(simp[results,Tryz.results60,go_sem];omega)) rfl ⟨rfl,by (repeat (first|(with_reducible exact Below.refl _ _)|((with_reducible refine Below.setCell ?_ ?_ _);rotate_left;focus (first|(simp;done)|(simp;omega)))|(with_reducible refine below_drewN ?_ _)|(with_reducible refine Below.drew ?_)|((with_reducible refine Below.alloc ?_ ?_ _);rotate_left;focus (first|(simp;done)|(simp;omega)))))⟩)
  | (rw [if_neg (by omega), if_neg (by omega), if_neg (by omega), if_neg (by omega)] at hE
     subst hE
     exact bodyPost_ret (v:=.tuple #[enV badE,.bool true]) (by first|(simp[results,Tryz.results60,go_sem,badE];done)|(simp[results,Tryz.results60,go_sem,badE];omega)) rfl ⟨rfl,by (repeat (first|(with_reducible exact Below.refl _ _)|((with_reducible refine Below.setCell ?_ ?_ _);rotate_left;focus (first|(simp;done)|(simp;omega)))|(with_reducible refine below_drewN ?_ _)|(with_reducible refine Below.drew ?_)|((with_reducible refine Below.alloc ?_ ?_ _);rotate_left;focus (first|(simp;done)|(simp;omega)))))⟩))
theorem one_short (a:Option Addr) (len cap:Nat) (hl:len<5) (w:World):
 Calls Tryz.prog 90 #[.slice a len cap] w fun e w'=>e=.returned (.tuple #[.agg #[.int .i64 0,.int .i64 0,.int .i64 0,.int .i64 0,.int .i64 0,.int .i64 0,.int .i64 0],.bool false])∧w.alloc (.cells #[.int .i64 0,.int .i64 0,.int .i64 0,.int .i64 0,.int .i64 0,.int .i64 0,.int .i64 0] 71)=w':=by
 have i0:(len:Int)<5:=by omega
 go_enter Tryz.func90,Tryz.ntmps90;go_wp2;exact bodyPost_ret (v:=.tuple #[.agg #[.int .i64 0,.int .i64 0,.int .i64 0,.int .i64 0,.int .i64 0,.int .i64 0,.int .i64 0],.bool false]) (by simp[results,Tryz.results90,go_sem]) rfl ⟨rfl,rfl⟩
theorem rone_short (a:Option Addr) (len cap:Nat) (hl:len<5) (w:World):
 Calls Tryz.prog 60 #[.slice a len cap] w fun e w'=>e=.returned (.tuple #[.agg #[.int .i64 0,.int .i64 0,.int .i64 0,.int .i64 0,.int .i64 0,.int .i64 0,.int .i64 0],.bool false])∧w.alloc (.cells #[.int .i64 0,.int .i64 0,.int .i64 0,.int .i64 0,.int .i64 0,.int .i64 0,.int .i64 0] 71)=w':=by
 have i0:(len:Int)<5:=by omega
 go_enter Tryz.func60,Tryz.ntmps60;go_wp2;exact bodyPost_ret (v:=.tuple #[.agg #[.int .i64 0,.int .i64 0,.int .i64 0,.int .i64 0,.int .i64 0,.int .i64 0,.int .i64 0],.bool false]) (by simp[results,Tryz.results60,go_sem]) rfl ⟨rfl,rfl⟩
theorem one_any (B off len cap:Nat) (hl:5≤len) (hc:len≤cap) (hm:cap≤9223372036854775807) (b0 b1 b2 b3 b4:Int) (p0:0≤b0) (q0:b0<256) (p1:0≤b1) (q1:b1<256) (p2:0≤b2) (q2:b2<256) (p3:0≤b3) (q3:b3<256) (p4:0≤b4) (q4:b4<256) (w:World)
 (c0:w.cell? ⟨B,off,none⟩=some (.int .u8 b0)) (c1:w.cell? ⟨B,off+1,none⟩=some (.int .u8 b1)) (c2:w.cell? ⟨B,off+2,none⟩=some (.int .u8 b2)) (c3:w.cell? ⟨B,off+3,none⟩=some (.int .u8 b3)) (c4:w.cell? ⟨B,off+4,none⟩=some (.int .u8 b4)):
 Calls Tryz.prog 90 #[.slice (some ⟨B,off,none⟩) len cap] w fun e w'=>e=.returned (.tuple #[enV (enE b0 b1 b2 b3 b4),.bool true])∧Below w.heap.size w w':=by
 have hB:B<w.heap.size:=World.block_lt_of_cell? w _ c0;have i0:(5:Int)≤(len:Int):=by omega
 have i1:(5:Int)≤(cap:Int):=by omega
 have d:∀ o,(w.alloc o).cell? ⟨B,off,none⟩=some (.int .u8 b0)∧(w.alloc o).cell? ⟨B,off+1,none⟩=some (.int .u8 b1)∧(w.alloc o).cell? ⟨B,off+2,none⟩=some (.int .u8 b2)∧(w.alloc o).cell? ⟨B,off+3,none⟩=some (.int .u8 b3)∧(w.alloc o).cell? ⟨B,off+4,none⟩=some (.int .u8 b4):=fun o=>
  ⟨by rw[World.cell?_alloc_past _ _ _ hB];exact c0,by rw[World.cell?_alloc_past _ _ _ hB];exact c1,by rw[World.cell?_alloc_past _ _ _ hB];exact c2,by rw[World.cell?_alloc_past _ _ _ hB];exact c3,by rw[World.cell?_alloc_past _ _ _ hB];exact c4⟩
 have HI:=Lib.hid (fun o=>entry_any B off 5 cap (by omega) b0 b1 b2 b3 b4 p0 q0 p1 q1 p2 q2 p3 q3 p4 q4 (w.alloc o) (d o).1 (d o).2.1 (d o).2.2.1 (d o).2.2.2.1 (d o).2.2.2.2);clear d;generalize enE b0 b1 b2 b3 b4=E at*;obtain⟨ek,es,elv,eok,eoy,eoh,eov⟩:=E;go_enter Tryz.func90,Tryz.ntmps90;go_wp2_with fail;refine (HI.out _).mono ?_;rintro e w1 ⟨rfl,hq⟩;have hg:w1.heap[w.heap.size]? =some (.cells #[.int .i64 0,.int .i64 0,.int .i64 0,.int .i64 0,.int .i64 0,.int .i64 0,.int .i64 0] 71 (0,0)):=(hq.block w.heap.size (by simp)).trans (by show (w.heap.push _)[w.heap.size]? =_;simp);go_wp2_with (refine wpList_store_row rfl 71 _ _ rfl w.heap.size #[.int .i64 ek,.int .i64 es,.int .i64 elv,.int .i64 eok,.int .i64 eoy,.int .i64 eoh,.int .i64 eov] rfl rfl 71 _ hg (by kernel_rfl) rfl (by simp[Value.oneCell']) ?_);have r:∀ j,(w1.setRow w.heap.size #[.int .i64 ek,.int .i64 es,.int .i64 elv,.int .i64 eok,.int .i64 eoy,.int .i64 eoh,.int .i64 eov]).cell? ⟨w.heap.size,j,none⟩=(#[.int .i64 ek,.int .i64 es,.int .i64 elv,.int .i64 eok,.int .i64 eoy,.int .i64 eoh,.int .i64 eov]:Array Value)[j]? :=fun j=>cell_setRow_same _ _ _ _ _ _ _ hg
 have r0:=r 0;have r1:=r 1;have r2:=r 2;have r3:=r 3;have r4:=r 4;have r5:=r 5;have r6:=r 6;clear r;simp at r0 r1 r2 r3 r4 r5 r6;have hfin:Below w.heap.size w (w1.setRow w.heap.size #[.int .i64 ek,.int .i64 es,.int .i64 elv,.int .i64 eok,.int .i64 eoy,.int .i64 eoh,.int .i64 eov]):=below_setRow ((below_allocs1 w _).trans (hq.mono (by simp))) (Nat.le_refl _) _;exact bodyPost_ret (v:=.tuple #[.agg #[.int .i64 ek,.int .i64 es,.int .i64 elv,.int .i64 eok,.int .i64 eoy,.int .i64 eoh,.int .i64 eov],.bool true]) (by simp[results,Tryz.results90,go_sem,r0,r1,r2,r3,r4,r5,r6]) rfl ⟨rfl,hfin⟩
theorem infoE:(Tryz.prog.info? 71).map (fun i=>(i.zero,i.size,i.bytes))=some (some (.agg #[.int .i64 0,.int .i64 0,.int .i64 0,.int .i64 0,.int .i64 0,.int .i64 0,.int .i64 0]),7,56):=by kernel_rfl
theorem append_E {ops:Array Oper} {rest:List Oper} {o:Oper} {a:Act} {Q:Exit→Act→World→Prop} (w:World) (hgd:o.guard=none) (s x:Operand)
 (ho:o.op=.call {callee:=.builtin .append,args:=#[s,x],argTypes:=#[70,70]})
 (base:Nat) (v:Value) (n:Nat) (xs:List Value) (hs:a.eval s=v) (hown:w.ownsRow base 71 7 v n xs)
 (ad:Addr) (c:Nat) (news:List Value) (hx:a.eval x=.slice (some ad) 1 c) (hl:news.length=7) (hnews:∀ j u,news[j]? =some u→w.cell? (ad.add j)=some u) (h1:∀ u∈news,u.oneCell'=true)
 (hn:n<1000000) (hbase:base≤w.heap.size)
 (h:∀ v' w',w'.ownsRow base 71 7 v' (n+1) (xs++news)→w.grownBy w' v.ownBlock→wpList Tryz.prog ops Q rest (a.put o.dst v') w'):wpList Tryz.prog ops Q (o::rest) a w:=by
 obtain⟨i0,hi,hz0,hz1,hz2⟩:=info_parts infoE;exact wpList_append_own w hgd s x _ ho base _ i0 _ 7 56 Tryz.underlying70 hi hz0 hz1 hz2 rfl (by decide) v n xs hs hown ad 1 c news hx (by rw[hl]) hnews h1 (by unfold maxLen;omega) (by omega) hbase (fun v' w' h2 h3 _=>h v' w' h2 h3)
theorem oneCell_E (e:En):∀ u∈cellsE e,u.oneCell'=true:=by
 intro u hu;simp[cellsE] at hu;rcases hu with rfl|rfl|rfl|rfl|rfl|rfl|rfl<;>rfl
theorem clip_any (a:Option Addr) (n cap:Nat) (h:n≤cap) (hm:cap≤9223372036854775807) (w:World):
 Calls Tryz.prog 92 #[.slice a n cap] w fun e w'=>e=.returned (.slice a n n)∧w=w':=by
 have h1:(n:Int)≤(cap:Int):=by omega
 go_enter Tryz.func92,Tryz.ntmps92;go_wp2;go_ret;exact⟨rfl,rfl⟩
def Bytes (w:World) (a:Option Addr) (len cap:Nat) (bs:List Int):Prop:=
 bs.length=len∧len≤cap∧cap≤9223372036854775807∧(len=0∨∃ B off,a=some ⟨B,off,none⟩∧B<w.heap.size∧∀ i,i<len→w.cell? ⟨B,off+i,none⟩=some (.int .u8 (bs.getD i 0))∧0≤bs.getD i 0∧bs.getD i 0<256)
theorem Bytes.below {w w1:World} {a:Option Addr} {len cap:Nat} {bs:List Int} (h:Bytes w a len cap bs) (hb:Below w.heap.size w w1):Bytes w1 a len cap bs:=by
 obtain⟨h1,h2,h3,h4⟩:=h;refine⟨h1,h2,h3,?_⟩
 rcases h4 with h4|⟨B,off,e1,e2,e3⟩
 · exact .inl h4
 · exact .inr ⟨B,off,e1,Nat.lt_of_lt_of_le e2 hb.size,fun i hi=>⟨by rw[hb.cell (p:=⟨B,off+i,none⟩) e2];exact (e3 i hi).1,(e3 i hi).2⟩⟩
theorem Bytes.next {w:World} {B off r c m:Nat} {bs:List Int} (h:Bytes w (some ⟨B,off,none⟩) r c bs) (hm:m≤r):Bytes w (if c=m then some ⟨B,off,none⟩ else some ⟨B,off+m,none⟩) (r - m) (c - m) (bs.drop m):=by
 obtain⟨h1,h2,h3,h4⟩:=h;refine⟨by rw[List.length_drop,h1],by omega,by omega,?_⟩
 by_cases h0:r - m=0
 · exact .inl h0
 · rcases h4 with h4|⟨B',off',e1,e2,e3⟩
   · omega
   · simp only[Option.some.injEq,Addr.mk.injEq] at e1
     obtain⟨rfl,rfl,_⟩:=e1;rw[if_neg (by omega)];refine .inr ⟨B,off+m,rfl,e2,fun i hi=>?_⟩;rw[getD_drop,Nat.add_assoc];exact e3 (m+i) (by omega)
def DecRel (w:World) (a:Option Addr) (len cap:Nat) (bs:List Int) (k:Nat) (b v:Value) (wr:World):Prop:=
 ∃ acc r c' a',Told bs k acc∧b=.slice a' r c'∧wr.ownsRow w.heap.size 71 7 v k (flatE acc)∧Below w.heap.size w wr∧r=len - 5*k∧Bytes w a' r c' (bs.drop (5*k))
set_option maxHeartbeats 2000000 in
theorem decode_any (a:Option Addr) (len cap:Nat) (bs:List Int) (w:World) (hbs:Bytes w a len cap bs):
 Calls Tryz.prog 64 #[.slice a len cap] w fun e w'=>∃ v,e=.returned v∧Ow.Row w' w.heap.size 7 v (flatE (dec 2000 bs))∧Below w.heap.size w w':=by
 have hlen:=hbs.1;go_enter Tryz.func64,Tryz.ntmps64;go_wp2
 go_loopw [0,3] (fun b v wr=>∃ k,DecRel w a len cap bs k b v wr) (fun b _ _=>match b with|.slice _ n _=>n|_=>0)
 case atStart=>exact⟨0,[],len,cap,a,Told.start bs,rfl,World.ownsRow_nil _ _ _ _,Below.refl _ _,by omega,by simpa using hbs⟩
 case round=>
  obtain⟨k,acc,r,c',a',ht,rfl,hown,hbel,hr,hB⟩:=hrel;obtain⟨a2,cap2,rfl,hn2,hm2,hrow⟩:=Ow.own_form hown
  by_cases hstop:r=0∨k=2000
  · have hfull:=ht.full (by omega)
    rw[hfull] at hrow;have hfin:Ow.Row wr w.heap.size 7 (.slice a2 k k) (flatE (dec 2000 bs))∧Below w.heap.size w wr:=⟨hrow,hbel⟩
    have HF:=Lib.hid hfin;have HB:=Lib.hid hbs;clear ht hown hB hfull hrow hfin hr hbel hlen hbs
    rcases hstop with rfl|rfl
    · go_wp2_with (go_at_call 92;refine (clip_any _ _ _ hn2 hm2 _).mono ?_;rintro e w' ⟨rfl,rfl⟩)
      go_ret;exact⟨_,rfl,HF.out⟩
    · by_cases hr0:0<r
      · have hr1:(0:Int)<(r:Int):=by omega
        go_wp2_with (go_at_call 92;refine (clip_any _ _ _ hn2 hm2 _).mono ?_;rintro e w' ⟨rfl,rfl⟩);go_ret;exact⟨_,rfl,HF.out⟩
      · obtain rfl:r=0:=by omega
        go_wp2_with (go_at_call 92;refine (clip_any _ _ _ hn2 hm2 _).mono ?_;rintro e w' ⟨rfl,rfl⟩);go_ret;exact⟨_,rfl,HF.out⟩
  · have hr0:0<r:=by omega
    have hk0:k<2000:=by have:=ht.2.1;omega
    have hr1:(0:Int)<(r:Int):=by omega
    have hk1:(k:Int)<2000:=by omega
    have hBr:=hB.below hbel;obtain⟨hb1,hb2,hb3,hb4⟩:=hBr
    rcases hb4 with hb4|⟨B,off,rfl,hBl,hcell⟩
    · omega
    have HR:=Lib.hid hr;have HT:=Lib.hid (ht.step hk0 (by omega))
    by_cases h5:5≤r
    · have c0:=hcell 0 (by omega)
      have c1:=hcell 1 (by omega);have c2:=hcell 2 (by omega);have c3:=hcell 3 (by omega);have c4:=hcell 4 (by omega);rw[Nat.add_zero] at c0;have HO:=one_any B off r c' h5 hb2 hb3 _ _ _ _ _ c0.2.1 c0.2.2 c1.2.1 c1.2.2 c2.2.1 c2.2.2 c3.2.1 c3.2.2 c4.2.1 c4.2.2 wr c0.1 c1.1 c2.1 c3.1 c4.1;have hh:hdE (bs.drop (5*k))=enE ((bs.drop (5*k)).getD 0 0) ((bs.drop (5*k)).getD 1 0) ((bs.drop (5*k)).getD 2 0) ((bs.drop (5*k)).getD 3 0) ((bs.drop (5*k)).getD 4 0):=by
       unfold hdE;rw[if_neg (by omega)]
      rw[←hh] at HO;generalize hdE (bs.drop (5*k))=E at*;have HI:=Lib.hid HO;have HB:=Lib.hid hB;have HD:Hid (Bytes w (some ⟨B,off,none⟩) r c' (bs.drop (5*k))):=hB;clear HO hh c0 c1 c2 c3 c4 hcell ht hB hr hb1 hrow hstop;obtain⟨ek,es,elv,eok,eoy,eoh,eov⟩:=E;go_wp2_with fail;refine HI.out.mono ?_;rintro e w1 ⟨rfl,hq⟩;have hbel1:=Ow.below_base hbel hq;have hown1:=Ow.own_below hown hq;clear hown hbel hq;go_wp2_with (at_builtin;refine append_E _ rfl (.tmp 22) (.tmp 24) rfl w.heap.size (.slice a2 k cap2) k (flatE acc) rfl ((hown1.alloc _).alloc _) ⟨w1.heap.size+1,0,none⟩ 1 (cellsE ⟨ek,es,elv,eok,eoy,eoh,eov⟩) rfl rfl ?c1 (oneCell_E _) (by omega) ?c5 ?_)
      case c1=>exact Ow.new_row (w1.alloc _) (cellsE ⟨ek,es,elv,eok,eoy,eoh,eov⟩) _ (w1.heap.size+1) (by simp)
      case c5=>have:=hbel1.size;simp;omega
      intro v' w2 hown2 hg2;have hbel2:Below w.heap.size w w2:=Ow.grown_below ((hown1.alloc _).alloc _) ((hbel1.alloc hbel1.size _).alloc (by have:=hbel1.size;simp;omega) _) (by have:=hbel1.size;simp;omega) hg2;rw[←flatE_snoc] at hown2;clear hg2 hown1 hbel1;have h5i:(5:Int)≤(r:Int):=by omega
      have h5j:(5:Int)≤(c':Int):=by omega
      go_wp2_with fail;have hnext:=(HD.out).next h5
      rw[List.drop_drop,show 5*k+5=5*(k+1) from by omega] at hnext;exact⟨⟨k+1,_,r - 5,c' - 5,_,HT.out,rfl,hown2,hbel2,by have:=HR.out;omega,hnext⟩,by simp;omega⟩
    · have h5i:(r:Int)<5:=by omega
      have hh:hdE (bs.drop (5*k))=badE:=by unfold hdE;rw[if_pos (by omega)]
      rw[hh] at HT;have HB:Hid (Bytes w (some ⟨B,off,none⟩) r c' (bs.drop (5*k))):=hB;have HS:=Lib.hid (fun w=>one_short (some ⟨B,off,none⟩) r c' (by omega) w);have hrc:(r:Int)≤(c':Int):=by omega
      clear hh hcell ht hB hr hb1 hrow hstop h5;go_wp2_with (first|(go_at_call 90;refine (HS.out _).mono ?_;rintro e w' ⟨rfl,rfl⟩)|(go_at_call 91;refine (bad_any _).mono ?_;rintro e w' ⟨rfl,rfl⟩)|(at_builtin;refine append_E _ rfl (.tmp 22) (.tmp 24) rfl w.heap.size (.slice a2 k cap2) k (flatE acc) rfl ?own _ 1 (cellsE badE) rfl rfl ?c1 (oneCell_E _) (by omega) ?c5 ?_))
      case own=>exact Ow.own_below hown (by (repeat (first|(with_reducible exact Below.refl _ _)|((with_reducible refine Below.setCell ?_ ?_ _);rotate_left;focus (first|(simp;done)|(simp;omega)))|(with_reducible refine below_drewN ?_ _)|(with_reducible refine Below.drew ?_)|((with_reducible refine Below.alloc ?_ ?_ _);rotate_left;focus (first|(simp;done)|(simp;omega))))))
      case c5=>have:=hbel.size;simp;omega
      case c1=>exact Ow.new_row _ (cellsE badE) _ _ (by simp)
      intro v' w2 hown2 hg2;have hbel2:Below w.heap.size w w2:=Ow.grown_below (Ow.own_below hown (by (repeat (first|(with_reducible exact Below.refl _ _)|((with_reducible refine Below.setCell ?_ ?_ _);rotate_left;focus (first|(simp;done)|(simp;omega)))|(with_reducible refine below_drewN ?_ _)|(with_reducible refine Below.drew ?_)|((with_reducible refine Below.alloc ?_ ?_ _);rotate_left;focus (first|(simp;done)|(simp;omega))))))) (hbel.trans ((show Below wr.heap.size wr _ by (repeat (first|(with_reducible exact Below.refl _ _)|((with_reducible refine Below.setCell ?_ ?_ _);rotate_left;focus (first|(simp;done)|(simp;omega)))|(with_reducible refine below_drewN ?_ _)|(with_reducible refine Below.drew ?_)|((with_reducible refine Below.alloc ?_ ?_ _);rotate_left;focus (first|(simp;done)|(simp;omega)))))).mono hbel.size)) (by have:=hbel.size;simp;omega) hg2;rw[←flatE_snoc] at hown2;clear hg2 hown hbel;go_wp2_with fail;have hlast:Bytes w (if c'=r then some ⟨B,off,none⟩ else some ⟨B,off+r,none⟩) 0 (c' - r) (bs.drop (5*(k+1))):=
       ⟨by rw[List.length_drop];have:=HR.out;omega,by omega,by omega,.inl rfl⟩
      exact⟨⟨k+1,_,0,c' - r,_,HT.out,rfl,hown2,hbel2,by have:=HR.out;omega,hlast⟩,by simp;omega⟩
end Go.Proofs.YthicolbbmjfkfaaGreat.Plan
