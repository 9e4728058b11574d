import Derived.Test.YthicolbbmjfkfaaGreatQn2
import Derived.Deep.QuietTactic
import Derived.BigQuiet
import Derived.RegionTactic
import Derived.ChangeAlike
import Derived.Deep.RegionWith
import Derived.Deep.RegionHeld3
import Derived.Deep.DeepCutAuto
import Derived.StillTailTactics
set_option linter.unusedVariables false
set_option linter.unusedSimpArgs false
set_option maxRecDepth 100000
set_option maxHeartbeats 1600000
namespace Go.Proofs.YthicolbbmjfkfaaGreat.bR
open Go.ChangeShapes Go.WideShapes Go.ChangeAt Go.RowKit
structure En where
 k:Int
 s:Int
 lv:Int
 ok:Int
 oy:Int
 oh:Int
 ov:Int
abbrev lN (e:En):Value:=.agg #[.int .i64 e.k,.int .i64 e.s,.int .i64 e.lv,.int .i64 e.ok,.int .i64 e.oy,.int .i64 e.oh,.int .i64 e.ov]
def gG:En:=⟨5,0,0,0,0,0,0⟩
def Nq (s w k l:Int):En:=
 if w % 8≠0∨w / 8<1∨7<w / 8 then gG
 else if w / 8=5 then ⟨2,s,0,5,k,l,0⟩
 else if w / 8=2∨w / 8=3 then ⟨2,s,0,w / 8,k,0,l⟩
 else if l≠0∨(6<=w / 8∧k≠0) then gG else ⟨2,s,0,w / 8,k,0,0⟩
def qM (b0 b1 b2 b3 b4:Int):En:=
 if 8<=b1 then gG
 else if b0=0∧1<=b2∧b2<=3∧b3=0∧b4=0 then ⟨1,b1,b2,0,0,0,0⟩
 else if b0=1 then Nq b1 b2 b3 b4
 else if (b0=2∨b0=3∧b1=0)∧b2=0∧b3=0∧b4=0 then ⟨b0+1,b1,0,0,0,0,0⟩ else gG
theorem wG (w:World):Calls Tryz.prog 91 #[] w fun e E=>e=.returned (.agg #[.int .i64 5,.int .i64 0,.int .i64 0,.int .i64 0,.int .i64 0,.int .i64 0,.int .i64 0])∧w.alloc (.cells #[.int .i64 5,.int .i64 0,.int .i64 0,.int .i64 0,.int .i64 0,.int .i64 0,.int .i64 0] 71)=E:=by
 go_enter Tryz.func91,Tryz.ntmps91;go_wp2;exact bodyPost_ret (v:=.agg #[.int .i64 5,.int .i64 0,.int .i64 0,.int .i64 0,.int .i64 0,.int .i64 0,.int .i64 0]) (by simp[results,Tryz.results91,go_sem]) rfl ⟨rfl,rfl⟩
theorem bY (w:World) (o:Obj):Below w.heap.size w (w.alloc o):=(Below.refl _ _).alloc (zr _) _
theorem bW (w:World) (o o':Obj):Below w.heap.size w ((w.alloc o).alloc o'):=(bY w o).alloc (by simp) _
theorem eG (w:World) (o o' o'':Obj):Below w.heap.size w (((w.alloc o).alloc o').alloc o''):=(bW w o o').alloc (by simp;omega) _
set_option maxRecDepth 100000 in
set_option maxHeartbeats 8000000 in
theorem Jk (s b k l:Int) (b0:0<=b) (b1:b<256) (k0:0<=k) (k1:k<256) (l0:0<=l) (l1:l<256) (w:World):
 Calls Tryz.prog 112 #[.int .i64 s,.int .u8 b,.int .u8 k,.int .u8 l] w fun e E=>e=.returned (lN (Nq s b k l))∧Below w.heap.size w E:=by
 obtain⟨zp,hE⟩:∃ zp,zp=Nq s b k l:=⟨_,rfl⟩
 have HE:=Lib.hid hE;rw[<-hE];clear hE;unfold lN;go_enter Tryz.func112,Tryz.ntmps112;go_wp2_with (go_at_call 91;refine (wG _).mono ?_;rintro e E ⟨rfl,rfl⟩)
 all_goals (
  try simp only[bne_iff_ne,ne_eq,beq_iff_eq,bne_eq_false_iff_eq,beq_eq_false_iff_ne] at*
  have hE:=HE.out
  unfold Nq at hE
  first
  | (rw [aV (by omega)] at hE
     subst hE
     exact bodyPost_ret (v:=lN gG) (by first|(simp[results,Tryz.results112,go_sem,gG];done)|(simp[results,Tryz.results112,go_sem,gG];omega)) rfl ⟨rfl,by first|exact bY _ _|exact bW _ _ _|exact eG _ _ _ _⟩)
  | (rw [aR (by omega), aV (by omega)] at hE
     subst hE
     exact bodyPost_ret (v:=lN ⟨2,s,0,5,k,l,0⟩) (by first|(simp[results,Tryz.results112,go_sem];done)|(simp[results,Tryz.results112,go_sem];omega)) rfl ⟨rfl,by first|exact bY _ _|exact bW _ _ _|exact eG _ _ _ _⟩)
  | (rw [aR (by omega), aR (by omega), aV (by omega)] at hE
     subst hE
     exact bodyPost_ret (v:=lN ⟨2,s,0,b / 8,k,0,l⟩) (by first|(simp[results,Tryz.results112,go_sem];done)|(simp[results,Tryz.results112,go_sem];omega)) rfl ⟨rfl,by first|exact bY _ _|exact bW _ _ _|exact eG _ _ _ _⟩)
  | (rw [aR (by omega), aR (by omega), aR (by omega), aV (by omega)] at hE
     subst hE
     exact bodyPost_ret (v:=lN gG) (by first|(simp[results,Tryz.results112,go_sem,gG];done)|(simp[results,Tryz.results112,go_sem,gG];omega)) rfl ⟨rfl,by first|exact bY _ _|exact bW _ _ _|exact eG _ _ _ _⟩)
  | (rw [aR (by omega), aR (by omega), aR (by omega), aR (by omega)] at hE
     subst hE
     exact bodyPost_ret (v:=lN ⟨2,s,0,b / 8,k,0,0⟩) (by first|(simp[results,Tryz.results112,go_sem];done)|(simp[results,Tryz.results112,go_sem];omega)) rfl ⟨rfl,by first|exact bY _ _|exact bW _ _ _|exact eG _ _ _ _⟩))
theorem Jl (B off len cap:Nat) (hl:5<=len) (b0 b1 b2 b3 b4:Int) (p0:0<=b0) (q0:b0<256) (p1:0<=b1) (q1:b1<256) (p2:0<=b2) (q2:b2<256) (p3:0<=b3) (q3:b3<256) (p4:0<=b4) (q4:b4<256) (w:World) (c0:w.cell? ⟨B,off,none⟩=some (.int .u8 b0)) (c1:w.cell? ⟨B,off+1,none⟩=some (.int .u8 b1)) (c2:w.cell? ⟨B,off+2,none⟩=some (.int .u8 b2)) (c3:w.cell? ⟨B,off+3,none⟩=some (.int .u8 b3)) (c4:w.cell? ⟨B,off+4,none⟩=some (.int .u8 b4)) (h1:8<=b1):
 Calls Tryz.prog 89 #[.slice (some ⟨B,off,none⟩) len cap] w fun e E=>e=.returned (lN gG)∧Below w.heap.size w E:=by
 have t0:decide (8<=b1)=true:=by simp<;>omega
 clear h1;have hB:B<w.heap.size:=World.block_lt_of_cell? w _ c0;have hB1:B<w.heap.size+1:=by omega
 have hB2:B<w.heap.size+1+1:=by omega
 unfold lN gG;have q:(b3 !=0)=true∨(b3 !=0)=false∧((b4 !=0)=true∨(b4 !=0)=false):=by
  cases (b3 !=0)<;>cases (b4 !=0)<;>simp
 rcases q with t5|⟨t5,t6|t6⟩
 all_goals (
  go_enter Tryz.func89,Tryz.ntmps89
  go_wp2_with (go_at_call 91;refine (wG _).mono ?_;rintro e E ⟨rfl,rfl⟩)
  exact bodyPost_ret (v:=lN gG) (by simp[results,Tryz.results89,go_sem,gG]) rfl ⟨rfl,by first|exact bY _ _|exact bW _ _ _|exact eG _ _ _ _⟩)
theorem Lj (B off len cap:Nat) (hl:5<=len) (b0 b1 b2 b3 b4:Int) (p0:0<=b0) (q0:b0<256) (p1:0<=b1) (q1:b1<256) (p2:0<=b2) (q2:b2<256) (p3:0<=b3) (q3:b3<256) (p4:0<=b4) (q4:b4<256) (w:World) (c0:w.cell? ⟨B,off,none⟩=some (.int .u8 b0)) (c1:w.cell? ⟨B,off+1,none⟩=some (.int .u8 b1)) (c2:w.cell? ⟨B,off+2,none⟩=some (.int .u8 b2)) (c3:w.cell? ⟨B,off+3,none⟩=some (.int .u8 b3)) (c4:w.cell? ⟨B,off+4,none⟩=some (.int .u8 b4)) (h1:b1<8) (h0:b0=1):
 Calls Tryz.prog 89 #[.slice (some ⟨B,off,none⟩) len cap] w fun e E=>e=.returned (lN (Nq b1 b2 b3 b4))∧Below w.heap.size w E:=by
 have t0:decide (8<=b1)=false:=by simp<;>omega
 have t1:(b0+1==1)=false:=by simp<;>omega
 have t2:(b0+1==2)=true:=by simp<;>omega
 have t3:(b0+1==3)=false:=by simp<;>omega
 have t4:(b0+1==4)=false:=by simp<;>omega
 clear h1 h0;have q:(b3 !=0)=true∨(b3 !=0)=false∧((b4 !=0)=true∨(b4 !=0)=false):=by
  cases (b3 !=0)<;>cases (b4 !=0)<;>simp
 have hB:B<w.heap.size:=World.block_lt_of_cell? w _ c0;have hB1:B<w.heap.size+1:=by omega
 have hB2:B<w.heap.size+1+1:=by omega
 have HI:=Lib.hid (fun w=>Jk b1 b2 b3 b4 p2 q2 p3 q3 p4 q4 w);generalize Nq b1 b2 b3 b4=zp at*;obtain⟨ek,es,mD,kT,lQ,mJ,mi⟩:=zp;have i2:(2:Int)<(len:Int):=by omega
 have i3:(3:Int)<(len:Int):=by omega
 have i4:(4:Int)<(len:Int):=by omega
 rcases q with t5|⟨t5,t6|t6⟩
 all_goals (
  go_enter Tryz.func89,Tryz.ntmps89
  go_wp2_with fail
  refine wp_region_held_drew (S:=(fun E=>E.cell? ⟨B,off+2,none⟩=some (.int .u8 b2)∧E.cell? ⟨B,off+3,none⟩=some (.int .u8 b3)∧E.cell? ⟨B,off+4,none⟩=some (.int .u8 b4))) (by kernel_rfl) ?_ (fun bD=>?_)
  . (try dsimp only);exact⟨by go_simp,by go_simp,by go_simp⟩
  refine wpAnyH_take (i:=0) (v:=?_) rfl (by kernel_rfl) (by kernel_rfl) (by kernel_rfl) (fun _ _ _ h=>h) (Or.inl ⟨by rfl,?_⟩) bD ?_
  rotate_left
  . (intro w hSw;(try dsimp only at hSw);go_simp;(try with_reducible rfl))
  (try simp only[List.getElem_toArray,List.getElem_cons_succ,List.getElem_cons_zero,Act.put,List.setIfInBounds_toArray,List.set_cons_zero,List.set_cons_succ])
  refine wpAnyH_take (i:=1) (v:=?_) rfl (by kernel_rfl) (by kernel_rfl) (by kernel_rfl) (fun _ _ _ h=>h) (Or.inl ⟨by rfl,?_⟩) bD ?_
  rotate_left
  . (intro w hSw;(try dsimp only at hSw);go_simp;(try with_reducible rfl))
  (try simp only[List.getElem_toArray,List.getElem_cons_succ,List.getElem_cons_zero,Act.put,List.setIfInBounds_toArray,List.set_cons_zero,List.set_cons_succ])
  refine wpAnyH_take (i:=2) (v:=?_) rfl (by kernel_rfl) (by kernel_rfl) (by kernel_rfl) (fun _ _ _ h=>h) (Or.inl ⟨by rfl,?_⟩) bD ?_
  rotate_left
  . (intro w hSw;(try dsimp only at hSw);go_simp;(try with_reducible rfl))
  (try simp only[List.getElem_toArray,List.getElem_cons_succ,List.getElem_cons_zero,Act.put,List.setIfInBounds_toArray,List.set_cons_zero,List.set_cons_succ])
  refine wpAnyH_take (i:=3) (v:=?_) rfl (by kernel_rfl) (by kernel_rfl) (by kernel_rfl) (fun _ _ _ h=>h) (Or.inl ⟨by rfl,?_⟩) bD ?_
  rotate_left
  . (intro w hSw;(try dsimp only at hSw);go_simp;(try with_reducible rfl))
  (try simp only[List.getElem_toArray,List.getElem_cons_succ,List.getElem_cons_zero,Act.put,List.setIfInBounds_toArray,List.set_cons_zero,List.set_cons_succ])
  refine wpAnyH_take (i:=4) (v:=?_) rfl (by kernel_rfl) (by kernel_rfl) (by kernel_rfl) (fun _ _ _ h=>h) (Or.inl ⟨by rfl,?_⟩) bD ?_
  rotate_left
  . (intro w hSw;(try dsimp only at hSw);go_simp;(try with_reducible rfl))
  (try simp only[List.getElem_toArray,List.getElem_cons_succ,List.getElem_cons_zero,Act.put,List.setIfInBounds_toArray,List.set_cons_zero,List.set_cons_succ])
  refine wpAnyH_take (i:=5) (v:=?_) rfl (by kernel_rfl) (by kernel_rfl) (by kernel_rfl) (fun _ _ _ h=>h) (Or.inl ⟨by rfl,?_⟩) bD ?_
  rotate_left
  . (intro w hSw;(try dsimp only at hSw);go_simp;(try with_reducible rfl))
  (try simp only[List.getElem_toArray,List.getElem_cons_succ,List.getElem_cons_zero,Act.put,List.setIfInBounds_toArray,List.set_cons_zero,List.set_cons_succ])
  refine wpAnyH_take (i:=6) (v:=?_) rfl (by kernel_rfl) (by kernel_rfl) (by kernel_rfl) (fun _ _ _ h=>h) (Or.inl ⟨by rfl,?_⟩) bD ?_
  rotate_left
  . (intro w hSw;(try dsimp only at hSw);go_simp;(try with_reducible rfl))
  (try simp only[List.getElem_toArray,List.getElem_cons_succ,List.getElem_cons_zero,Act.put,List.setIfInBounds_toArray,List.set_cons_zero,List.set_cons_succ])
  refine wpAnyH_take (i:=7) (v:=?_) rfl (by kernel_rfl) (by kernel_rfl) (by kernel_rfl) (fun _ _ _ h=>h) (Or.inl ⟨by rfl,?_⟩) bD ?_
  rotate_left
  . (intro w hSw;(try dsimp only at hSw);go_simp;(try with_reducible rfl))
  (try simp only[List.getElem_toArray,List.getElem_cons_succ,List.getElem_cons_zero,Act.put,List.setIfInBounds_toArray,List.set_cons_zero,List.set_cons_succ])
  refine wpAnyH_take (i:=8) (v:=?_) rfl (by kernel_rfl) (by kernel_rfl) (by kernel_rfl) (fun _ _ _ h=>h) (Or.inl ⟨by rfl,?_⟩) bD ?_
  rotate_left
  . (intro w hSw;(try dsimp only at hSw);go_simp;(try with_reducible rfl))
  (try simp only[List.getElem_toArray,List.getElem_cons_succ,List.getElem_cons_zero,Act.put,List.setIfInBounds_toArray,List.set_cons_zero,List.set_cons_succ])
  refine wpAnyH_take (i:=9) (v:=?_) rfl (by kernel_rfl) (by kernel_rfl) (by kernel_rfl) (fun _ _ _ h=>h) (Or.inl ⟨by rfl,?_⟩) bD ?_
  rotate_left
  . (intro w hSw;(try dsimp only at hSw);go_simp;(try with_reducible rfl))
  (try simp only[List.getElem_toArray,List.getElem_cons_succ,List.getElem_cons_zero,Act.put,List.setIfInBounds_toArray,List.set_cons_zero,List.set_cons_succ])
  refine wpAnyH_ready (rs:=[10]) (by kernel_rfl) (by simp) ?_
  refine AllReadyH.cons (o:=_) rfl (fun K hK=>?_) ?_
  rotate_left
  . exact AllReadyH.nil
  go_simp
  (first|(go_at_call 112;refine (HI.out _).mono ?_;rintro e Y ⟨rfl,hq⟩))
  refine hK.out _ _ ?_ (fun bD=>?_)
  . (try dsimp only);exact⟨(hq.cell (p:=⟨B,off+2,none⟩) (by simp;omega)).trans bD.1,(hq.cell (p:=⟨B,off+3,none⟩) (by simp;omega)).trans bD.2.1,(hq.cell (p:=⟨B,off+4,none⟩) (by simp;omega)).trans bD.2.2⟩
  clear hK K
  (try simp only[List.getElem_toArray,List.getElem_cons_succ,List.getElem_cons_zero,Act.put,List.setIfInBounds_toArray,List.set_cons_zero,List.set_cons_succ])
  refine wpAnyH_ready (rs:=[11]) (by kernel_rfl) (by simp) ?_
  refine AllReadyH.cons (o:=_) rfl (fun K hK=>?_) ?_
  rotate_left
  . exact AllReadyH.nil
  rw[aV (by rfl)]
  refine wp_store_row 71 _ _ rfl w.heap.size #[.int .i64 ek,.int .i64 es,.int .i64 mD,.int .i64 kT,.int .i64 lQ,.int .i64 mJ,.int .i64 mi] rfl rfl 71 #[.int .i64 0,.int .i64 0,.int .i64 0,.int .i64 0,.int .i64 0,.int .i64 0,.int .i64 0] ((hq.block w.heap.size (by simp)).trans (by show (w.heap.push _)[w.heap.size]? =_;simp)) (by kernel_rfl) rfl (by simp[Value.oneCell']) ?_
  refine hK.out _ _ ?_ (fun bD=>?_)
  . (try dsimp only);exact⟨(cell_setRow_other _ _ _ _ (by simp;omega)).trans bD.1,(cell_setRow_other _ _ _ _ (by simp;omega)).trans bD.2.1,(cell_setRow_other _ _ _ _ (by simp;omega)).trans bD.2.2⟩
  clear hK K
  (try simp only[List.getElem_toArray,List.getElem_cons_succ,List.getElem_cons_zero,Act.put,List.setIfInBounds_toArray,List.set_cons_zero,List.set_cons_succ])
  refine wpAnyH_done (by kernel_rfl) ?_ _
  have hg:Y.heap[w.heap.size]? =some (.cells #[.int .i64 0,.int .i64 0,.int .i64 0,.int .i64 0,.int .i64 0,.int .i64 0,.int .i64 0] 71 (0,0)):=(hq.block w.heap.size (by simp)).trans (by show (w.heap.push _)[w.heap.size]? =_;simp)
  have r:∀ j,(Y.setRow w.heap.size #[.int .i64 ek,.int .i64 es,.int .i64 mD,.int .i64 kT,.int .i64 lQ,.int .i64 mJ,.int .i64 mi]).cell? ⟨w.heap.size,j,none⟩=(#[.int .i64 ek,.int .i64 es,.int .i64 mD,.int .i64 kT,.int .i64 lQ,.int .i64 mJ,.int .i64 mi]:Array Value)[j]? :=fun j=>cell_setRow_same _ _ _ _ _ _ _ hg
  have r0:=r 0
  have r1:=r 1
  have r2:=r 2
  have r3:=r 3
  have r4:=r 4
  have r5:=r 5
  have r6:=r 6
  clear r
  simp at r0 r1 r2 r3 r4 r5 r6
  have hfin:Below w.heap.size w (Y.setRow w.heap.size #[.int .i64 ek,.int .i64 es,.int .i64 mD,.int .i64 kT,.int .i64 lQ,.int .i64 mJ,.int .i64 mi]):=below_setRow ((bY w _).drew.trans (hq.mono (by simp))) (zr _) _
  generalize (Y.setRow w.heap.size #[.int .i64 ek,.int .i64 es,.int .i64 mD,.int .i64 kT,.int .i64 lQ,.int .i64 mJ,.int .i64 mi])=wf at*
  go_wp2
  exact bodyPost_ret (v:=.agg #[.int .i64 ek,.int .i64 es,.int .i64 mD,.int .i64 kT,.int .i64 lQ,.int .i64 mJ,.int .i64 mi]) (by simp[results,Tryz.results89,go_sem,r0,r1,r2,r3,r4,r5,r6]) rfl ⟨rfl,hfin⟩)
set_option maxHeartbeats 4000000 in
theorem Jm (B off len cap:Nat) (hl:5<=len) (b0 b1 b2 b3 b4:Int) (p0:0<=b0) (q0:b0<256) (p1:0<=b1) (q1:b1<256) (p2:0<=b2) (q2:b2<256) (p3:0<=b3) (q3:b3<256) (p4:0<=b4) (q4:b4<256) (h01:b0≠1) (w:World)
 (c0:w.cell? ⟨B,off,none⟩=some (.int .u8 b0)) (c1:w.cell? ⟨B,off+1,none⟩=some (.int .u8 b1)) (c2:w.cell? ⟨B,off+2,none⟩=some (.int .u8 b2)) (c3:w.cell? ⟨B,off+3,none⟩=some (.int .u8 b3)) (c4:w.cell? ⟨B,off+4,none⟩=some (.int .u8 b4)):
 Calls Tryz.prog 89 #[.slice (some ⟨B,off,none⟩) len cap] w fun e E=>e=.returned (lN (qM b0 b1 b2 b3 b4))∧Below w.heap.size w E:=by
 have hB:B<w.heap.size:=World.block_lt_of_cell? w _ c0;have hB1:B<w.heap.size+1:=by omega
 have hB2:B<w.heap.size+1+1:=by omega
 have t1:(b0+1==2)=false:=by simp;omega
 have t2:(b0+1=2)=False:=by simp;omega
 have t3:(b0=1)=False:=by simp;omega
 obtain⟨zp,hE⟩:∃ zp,zp=qM b0 b1 b2 b3 b4:=⟨_,rfl⟩
 have HE:=Lib.hid hE;rw[<-hE];have HN:=Lib.hid h01;clear hE h01;unfold lN;have q:((b4 !=0)=true∧b4≠0)∨((b4 !=0)=false∧b4=0):=by
  by_cases h:b4=0
  . exact .inr ⟨by simp[h],h⟩
  . exact .inl ⟨by simp[h],h⟩
 rcases q with ⟨q,q0⟩|⟨q,q0⟩
 all_goals (
  have HQ:=Lib.hid q0
  clear q0
  go_enter Tryz.func89,Tryz.ntmps89
  go_wp2_with (go_at_call 91;refine (wG _).mono ?_;rintro e E ⟨rfl,rfl⟩))
 all_goals (
  have hE:=HE.out
  have hN:=HN.out
  have hq:=HQ.out
  unfold qM at hE
  first
  | (rw [aV (by omega)] at hE
     subst hE
     exact bodyPost_ret (v:=lN gG) (by first|(simp[results,Tryz.results89,go_sem,gG];done)|(simp[results,Tryz.results89,go_sem,gG];omega)) rfl ⟨rfl,by first|exact bY _ _|exact bW _ _ _|exact eG _ _ _ _⟩)
  | (rw [aR (by omega), aV (by omega)] at hE
     subst hE
     exact bodyPost_ret (v:=lN ⟨1,b1,b2,0,0,0,0⟩) (by first|(simp[results,Tryz.results89,go_sem];done)|(simp[results,Tryz.results89,go_sem];omega)) rfl ⟨rfl,by first|exact bY _ _|exact bW _ _ _|exact eG _ _ _ _⟩)
  | (rw [aR (by omega), aR (by omega), aR (by omega), aV (by omega)] at hE
     subst hE
     exact bodyPost_ret (v:=lN ⟨b0+1,b1,0,0,0,0,0⟩) (by first|(simp[results,Tryz.results89,go_sem];done)|(simp[results,Tryz.results89,go_sem];omega)) rfl ⟨rfl,by first|exact bY _ _|exact bW _ _ _|exact eG _ _ _ _⟩)
  | (rw [aR (by omega), aR (by omega), aR (by omega), aR (by omega)] at hE
     subst hE
     exact bodyPost_ret (v:=lN gG) (by first|(simp[results,Tryz.results89,go_sem,gG];done)|(simp[results,Tryz.results89,go_sem,gG];omega)) rfl ⟨rfl,by first|exact bY _ _|exact bW _ _ _|exact eG _ _ _ _⟩)
)
theorem qN (B off len cap:Nat) (hl:5<=len) (b0 b1 b2 b3 b4:Int) (p0:0<=b0) (q0:b0<256) (p1:0<=b1) (q1:b1<256) (p2:0<=b2) (q2:b2<256) (p3:0<=b3) (q3:b3<256) (p4:0<=b4) (q4:b4<256) (w:World)
 (c0:w.cell? ⟨B,off,none⟩=some (.int .u8 b0)) (c1:w.cell? ⟨B,off+1,none⟩=some (.int .u8 b1)) (c2:w.cell? ⟨B,off+2,none⟩=some (.int .u8 b2)) (c3:w.cell? ⟨B,off+3,none⟩=some (.int .u8 b3)) (c4:w.cell? ⟨B,off+4,none⟩=some (.int .u8 b4)):
 Calls Tryz.prog 89 #[.slice (some ⟨B,off,none⟩) len cap] w fun e E=>e=.returned (lN (qM b0 b1 b2 b3 b4))∧Below w.heap.size w E:=by
 by_cases h01:b0=1
 . by_cases h1:8<=b1
   . unfold qM
     rw[aV h1];exact Jl B off len cap hl b0 b1 b2 b3 b4 p0 q0 p1 q1 p2 q2 p3 q3 p4 q4 w c0 c1 c2 c3 c4 h1
   . unfold qM
     rw[aR h1,aR (by omega),aV h01];exact Lj B off len cap hl b0 b1 b2 b3 b4 p0 q0 p1 q1 p2 q2 p3 q3 p4 q4 w c0 c1 c2 c3 c4 (by omega) h01
 . exact Jm B off len cap hl b0 b1 b2 b3 b4 p0 q0 p1 q1 p2 q2 p3 q3 p4 q4 h01 w c0 c1 c2 c3 c4
theorem OH {b0 b1 b2 b3 b4:Int} (h:3<b0):qM b0 b1 b2 b3 b4=gG:=by
 unfold qM
 by_cases h8:8<=b1
 . rw[aV h8]
 . rw[aR h8,aR (by omega),aR (by omega),aR (by omega)]
set_option maxHeartbeats 8000000 in
theorem Ll (B off len cap:Nat) (hl:5<=len) (hm:len<=9223372036854775807) (b0 b1 b2 b3 b4:Int) (p0:0<=b0) (q0:b0<256) (p1:0<=b1) (q1:b1<256) (p2:0<=b2) (q2:b2<256) (p3:0<=b3) (q3:b3<256) (p4:0<=b4) (q4:b4<256) (w:World)
 (c0:w.cell? ⟨B,off,none⟩=some (.int .u8 b0)) (c1:w.cell? ⟨B,off+1,none⟩=some (.int .u8 b1)) (c2:w.cell? ⟨B,off+2,none⟩=some (.int .u8 b2)) (c3:w.cell? ⟨B,off+3,none⟩=some (.int .u8 b3)) (c4:w.cell? ⟨B,off+4,none⟩=some (.int .u8 b4)):
 Calls Tryz.prog 60 #[.slice (some ⟨B,off,none⟩) len cap] w fun e E=>e=.returned (.tuple #[lN (qM b0 b1 b2 b3 b4),.bool true])∧Below w.heap.size w E:=by
 have i0:(5:Int)<=(len:Int):=by omega
 have i1:(0:Int)<(len:Int):=by omega
 have i2:(1:Int)<(len:Int):=by omega
 have i3:(2:Int)<(len:Int):=by omega
 have i4:(3:Int)<(len:Int):=by omega
 have i5:(4:Int)<(len:Int):=by omega
 have hB:B<w.heap.size:=World.block_lt_of_cell? w _ c0;have hB1:B<w.heap.size+1:=by omega
 have hB2:B<w.heap.size+1+1:=by omega
 obtain⟨zp,hE⟩:∃ zp,zp=qM b0 b1 b2 b3 b4:=⟨_,rfl⟩
 have HE:=Lib.hid hE;rw[<-hE];clear hE;unfold lN;go_enter Tryz.func60,Tryz.ntmps60;go_wp2
 go_quiet (fail)
 go_wp2
 all_goals (
  try simp only[bne_iff_ne,ne_eq,beq_iff_eq,bne_eq_false_iff_eq,beq_eq_false_iff_ne] at*
  have hE:=HE.out
  unfold qM Nq at hE
  first
  | (rw [aV (by omega)] at hE
     subst hE
     exact bodyPost_ret (v:=.tuple #[lN gG,.bool true]) (by first|(simp[results,Tryz.results60,go_sem,gG];done)|(simp[results,Tryz.results60,go_sem,gG];omega)) rfl ⟨rfl,by (repeat (first|(with_reducible exact Below.refl _ _)|((with_reducible refine Below.setCell ?_ ?_ _);rotate_left;focus (first|(simp;done)|(simp;omega)))|(with_reducible refine below_drewN ?_ _)|(with_reducible refine Below.drew ?_)|((with_reducible refine Below.alloc ?_ ?_ _);rotate_left;focus (first|(simp;done)|(simp;omega)))))⟩)
  | (clear hE
     have hE:=HE.out
     rw[OH (by omega)] at hE
     subst hE
     exact bodyPost_ret (v:=.tuple #[lN gG,.bool true]) (by first|(simp[results,Tryz.results60,go_sem,gG];done)|(simp[results,Tryz.results60,go_sem,gG];omega)) rfl ⟨rfl,by (repeat (first|(with_reducible exact Below.refl _ _)|((with_reducible refine Below.setCell ?_ ?_ _);rotate_left;focus (first|(simp;done)|(simp;omega)))|(with_reducible refine below_drewN ?_ _)|(with_reducible refine Below.drew ?_)|((with_reducible refine Below.alloc ?_ ?_ _);rotate_left;focus (first|(simp;done)|(simp;omega)))))⟩)
  | (rw [aR (by omega), aV (by omega)] at hE
     subst hE
     exact bodyPost_ret (v:=.tuple #[lN ⟨1,b1,b2,0,0,0,0⟩,.bool true]) (by first|(simp[results,Tryz.results60,go_sem];done)|(simp[results,Tryz.results60,go_sem];omega)) rfl ⟨rfl,by (repeat (first|(with_reducible exact Below.refl _ _)|((with_reducible refine Below.setCell ?_ ?_ _);rotate_left;focus (first|(simp;done)|(simp;omega)))|(with_reducible refine below_drewN ?_ _)|(with_reducible refine Below.drew ?_)|((with_reducible refine Below.alloc ?_ ?_ _);rotate_left;focus (first|(simp;done)|(simp;omega)))))⟩)
  | (rw [aR (by omega), aR (by omega), aV (by omega), aV (by omega)] at hE
     subst hE
     exact bodyPost_ret (v:=.tuple #[lN gG,.bool true]) (by first|(simp[results,Tryz.results60,go_sem,gG];done)|(simp[results,Tryz.results60,go_sem,gG];omega)) rfl ⟨rfl,by (repeat (first|(with_reducible exact Below.refl _ _)|((with_reducible refine Below.setCell ?_ ?_ _);rotate_left;focus (first|(simp;done)|(simp;omega)))|(with_reducible refine below_drewN ?_ _)|(with_reducible refine Below.drew ?_)|((with_reducible refine Below.alloc ?_ ?_ _);rotate_left;focus (first|(simp;done)|(simp;omega)))))⟩)
  | (rw [aR (by omega), aR (by omega), aV (by omega), aR (by omega), aV (by omega)] at hE
     subst hE
     exact bodyPost_ret (v:=.tuple #[lN ⟨2,b1,0,5,b3,b4,0⟩,.bool true]) (by first|(simp[results,Tryz.results60,go_sem];done)|(simp[results,Tryz.results60,go_sem];omega)) rfl ⟨rfl,by (repeat (first|(with_reducible exact Below.refl _ _)|((with_reducible refine Below.setCell ?_ ?_ _);rotate_left;focus (first|(simp;done)|(simp;omega)))|(with_reducible refine below_drewN ?_ _)|(with_reducible refine Below.drew ?_)|((with_reducible refine Below.alloc ?_ ?_ _);rotate_left;focus (first|(simp;done)|(simp;omega)))))⟩)
  | (rw [aR (by omega), aR (by omega), aV (by omega), aR (by omega), aR (by omega), aV (by omega)] at hE
     subst hE
     exact bodyPost_ret (v:=.tuple #[lN ⟨2,b1,0,b2 / 8,b3,0,b4⟩,.bool true]) (by first|(simp[results,Tryz.results60,go_sem];done)|(simp[results,Tryz.results60,go_sem];omega)) rfl ⟨rfl,by (repeat (first|(with_reducible exact Below.refl _ _)|((with_reducible refine Below.setCell ?_ ?_ _);rotate_left;focus (first|(simp;done)|(simp;omega)))|(with_reducible refine below_drewN ?_ _)|(with_reducible refine Below.drew ?_)|((with_reducible refine Below.alloc ?_ ?_ _);rotate_left;focus (first|(simp;done)|(simp;omega)))))⟩)
  | (rw [aR (by omega), aR (by omega), aV (by omega), aR (by omega), aR (by omega), aR (by omega), aV (by omega)] at hE
     subst hE
     exact bodyPost_ret (v:=.tuple #[lN gG,.bool true]) (by first|(simp[results,Tryz.results60,go_sem,gG];done)|(simp[results,Tryz.results60,go_sem,gG];omega)) rfl ⟨rfl,by (repeat (first|(with_reducible exact Below.refl _ _)|((with_reducible refine Below.setCell ?_ ?_ _);rotate_left;focus (first|(simp;done)|(simp;omega)))|(with_reducible refine below_drewN ?_ _)|(with_reducible refine Below.drew ?_)|((with_reducible refine Below.alloc ?_ ?_ _);rotate_left;focus (first|(simp;done)|(simp;omega)))))⟩)
  | (rw [aR (by omega), aR (by omega), aV (by omega), aR (by omega), aR (by omega), aR (by omega), aR (by omega)] at hE
     subst hE
     exact bodyPost_ret (v:=.tuple #[lN ⟨2,b1,0,b2 / 8,b3,0,0⟩,.bool true]) (by first|(simp[results,Tryz.results60,go_sem];done)|(simp[results,Tryz.results60,go_sem];omega)) rfl ⟨rfl,by (repeat (first|(with_reducible exact Below.refl _ _)|((with_reducible refine Below.setCell ?_ ?_ _);rotate_left;focus (first|(simp;done)|(simp;omega)))|(with_reducible refine below_drewN ?_ _)|(with_reducible refine Below.drew ?_)|((with_reducible refine Below.alloc ?_ ?_ _);rotate_left;focus (first|(simp;done)|(simp;omega)))))⟩)
  | (rw [aR (by omega), aR (by omega), aR (by omega), aV (by omega)] at hE
     subst hE
     exact bodyPost_ret (v:=.tuple #[lN ⟨b0+1,b1,0,0,0,0,0⟩,.bool true]) (by first|(simp[results,Tryz.results60,go_sem];done)|(simp[results,Tryz.results60,go_sem];omega)) rfl ⟨rfl,by (repeat (first|(with_reducible exact Below.refl _ _)|((with_reducible refine Below.setCell ?_ ?_ _);rotate_left;focus (first|(simp;done)|(simp;omega)))|(with_reducible refine below_drewN ?_ _)|(with_reducible refine Below.drew ?_)|((with_reducible refine Below.alloc ?_ ?_ _);rotate_left;focus (first|(simp;done)|(simp;omega)))))⟩)
  | (rw [aR (by omega), aR (by omega), aR (by omega), aR (by omega)] at hE
     subst hE
     exact bodyPost_ret (v:=.tuple #[lN gG,.bool true]) (by first|(simp[results,Tryz.results60,go_sem,gG];done)|(simp[results,Tryz.results60,go_sem,gG];omega)) rfl ⟨rfl,by (repeat (first|(with_reducible exact Below.refl _ _)|((with_reducible refine Below.setCell ?_ ?_ _);rotate_left;focus (first|(simp;done)|(simp;omega)))|(with_reducible refine below_drewN ?_ _)|(with_reducible refine Below.drew ?_)|((with_reducible refine Below.alloc ?_ ?_ _);rotate_left;focus (first|(simp;done)|(simp;omega)))))⟩))
theorem Jn (a:Option Addr) (len cap:Nat) (hl:len<5) (w:World):
 Calls Tryz.prog 90 #[.slice a len cap] w fun e E=>e=.returned (.tuple #[.agg #[.int .i64 0,.int .i64 0,.int .i64 0,.int .i64 0,.int .i64 0,.int .i64 0,.int .i64 0],.bool false])∧w.alloc (.cells #[.int .i64 0,.int .i64 0,.int .i64 0,.int .i64 0,.int .i64 0,.int .i64 0,.int .i64 0] 71)=E:=by
 have i0:(len:Int)<5:=by omega
 go_enter Tryz.func90,Tryz.ntmps90;go_wp2;exact bodyPost_ret (v:=.tuple #[.agg #[.int .i64 0,.int .i64 0,.int .i64 0,.int .i64 0,.int .i64 0,.int .i64 0,.int .i64 0],.bool false]) (by simp[results,Tryz.results90,go_sem]) rfl ⟨rfl,rfl⟩
theorem Br (B off len cap:Nat) (hl:5<=len) (hc:len<=cap) (hm:cap<=9223372036854775807) (b0 b1 b2 b3 b4:Int) (p0:0<=b0) (q0:b0<256) (p1:0<=b1) (q1:b1<256) (p2:0<=b2) (q2:b2<256) (p3:0<=b3) (q3:b3<256) (p4:0<=b4) (q4:b4<256) (w:World)
 (c0:w.cell? ⟨B,off,none⟩=some (.int .u8 b0)) (c1:w.cell? ⟨B,off+1,none⟩=some (.int .u8 b1)) (c2:w.cell? ⟨B,off+2,none⟩=some (.int .u8 b2)) (c3:w.cell? ⟨B,off+3,none⟩=some (.int .u8 b3)) (c4:w.cell? ⟨B,off+4,none⟩=some (.int .u8 b4)):
 Calls Tryz.prog 90 #[.slice (some ⟨B,off,none⟩) len cap] w fun e E=>e=.returned (.tuple #[lN (qM b0 b1 b2 b3 b4),.bool true])∧Below w.heap.size w E:=by
 have hB:B<w.heap.size:=World.block_lt_of_cell? w _ c0;have i0:(5:Int)<=(len:Int):=by omega
 have i1:(5:Int)<=(cap:Int):=by omega
 have d:∀ o,(w.alloc o).cell? ⟨B,off,none⟩=some (.int .u8 b0)∧(w.alloc o).cell? ⟨B,off+1,none⟩=some (.int .u8 b1)∧(w.alloc o).cell? ⟨B,off+2,none⟩=some (.int .u8 b2)∧(w.alloc o).cell? ⟨B,off+3,none⟩=some (.int .u8 b3)∧(w.alloc o).cell? ⟨B,off+4,none⟩=some (.int .u8 b4):=fun o=>
  ⟨by rw[World.cell?_alloc_past _ _ _ hB];exact c0,by rw[World.cell?_alloc_past _ _ _ hB];exact c1,by rw[World.cell?_alloc_past _ _ _ hB];exact c2,by rw[World.cell?_alloc_past _ _ _ hB];exact c3,by rw[World.cell?_alloc_past _ _ _ hB];exact c4⟩
 have HI:=Lib.hid (fun o=>qN B off 5 cap (by omega) b0 b1 b2 b3 b4 p0 q0 p1 q1 p2 q2 p3 q3 p4 q4 (w.alloc o) (d o).1 (d o).2.1 (d o).2.2.1 (d o).2.2.2.1 (d o).2.2.2.2);clear d;generalize qM b0 b1 b2 b3 b4=zp at*;obtain⟨ek,es,mD,kT,lQ,mJ,mi⟩:=zp;go_enter Tryz.func90,Tryz.ntmps90;go_wp2_with fail;refine (HI.out _).mono ?_;rintro e Y ⟨rfl,hq⟩;have hg:Y.heap[w.heap.size]? =some (.cells #[.int .i64 0,.int .i64 0,.int .i64 0,.int .i64 0,.int .i64 0,.int .i64 0,.int .i64 0] 71 (0,0)):=(hq.block w.heap.size (by simp)).trans (by show (w.heap.push _)[w.heap.size]? =_;simp);go_wp2_with (refine wpList_store_row rfl 71 _ _ rfl w.heap.size #[.int .i64 ek,.int .i64 es,.int .i64 mD,.int .i64 kT,.int .i64 lQ,.int .i64 mJ,.int .i64 mi] rfl rfl 71 _ hg (by kernel_rfl) rfl (by simp[Value.oneCell']) ?_);have r:∀ j,(Y.setRow w.heap.size #[.int .i64 ek,.int .i64 es,.int .i64 mD,.int .i64 kT,.int .i64 lQ,.int .i64 mJ,.int .i64 mi]).cell? ⟨w.heap.size,j,none⟩=(#[.int .i64 ek,.int .i64 es,.int .i64 mD,.int .i64 kT,.int .i64 lQ,.int .i64 mJ,.int .i64 mi]:Array Value)[j]? :=fun j=>cell_setRow_same _ _ _ _ _ _ _ hg
 have r0:=r 0;have r1:=r 1;have r2:=r 2;have r3:=r 3;have r4:=r 4;have r5:=r 5;have r6:=r 6;clear r;simp at r0 r1 r2 r3 r4 r5 r6;have hfin:Below w.heap.size w (Y.setRow w.heap.size #[.int .i64 ek,.int .i64 es,.int .i64 mD,.int .i64 kT,.int .i64 lQ,.int .i64 mJ,.int .i64 mi]):=below_setRow ((bY w _).trans (hq.mono (by simp))) (zr _) _;exact bodyPost_ret (v:=.tuple #[.agg #[.int .i64 ek,.int .i64 es,.int .i64 mD,.int .i64 kT,.int .i64 lQ,.int .i64 mJ,.int .i64 mi],.bool true]) (by simp[results,Tryz.results90,go_sem,r0,r1,r2,r3,r4,r5,r6]) rfl ⟨rfl,hfin⟩
def cellsE (e:En):List Value:=[.int .i64 e.k,.int .i64 e.s,.int .i64 e.lv,.int .i64 e.ok,.int .i64 e.oy,.int .i64 e.oh,.int .i64 e.ov]
def gZ (l:List En):List Value:=l.flatMap cellsE
theorem tO (l:List En):(gZ l).length=l.length*7:=by
 induction l with
 |nil=>rfl
 |cons e l ih=>
  show (cellsE e++gZ l).length=_;rw[jR,ih,List.length_cons];show 7+_=_;omega
theorem rW (l:List En) (e:En):gZ (l++[e])=gZ l++cellsE e:=by
 unfold gZ;rw[List.flatMap_append];simp
def Nr (bs:List Int):En:=if bs.length<5 then gG else qM (bs.getD 0 0) (bs.getD 1 0) (bs.getD 2 0) (bs.getD 3 0) (bs.getD 4 0)
def dec:Nat->List Int->List En
 |0,_=>[]
 |n+1,bs=>if bs.length=0 then [] else Nr bs::dec n (bs.drop 5)
def Told (bs:List Int) (k:Nat) (acc:List En):Prop:=acc.length=k∧k<=2000∧acc++dec (2000 - k) (bs.drop (5*k))=dec 2000 bs
theorem Told.start (bs:List Int):Told bs 0 []:=⟨rfl,by omega,by simp⟩
theorem Told.step {bs:List Int} {k:Nat} {acc:List En} (h:Told bs k acc) (Z:k<2000) (hr:5*k<bs.length):Told bs (k+1) (acc++[Nr (bs.drop (5*k))]):=by
 obtain⟨h1,h2,h3⟩:=h;refine⟨by simp[h1],by omega,?_⟩;rw[<-h3,show 2000 - k=(2000 - (k+1))+1 from by omega]
 conv=>rhs;unfold dec
 rw[aR (by rw[List.length_drop];omega),List.drop_drop,show 5*k+5=5*(k+1) from by omega];simp
theorem Told.full {bs:List Int} {k:Nat} {acc:List En} (h:Told bs k acc) (Z:k=2000∨bs.length<=5*k):acc=dec 2000 bs:=by
 obtain⟨h1,h2,h3⟩:=h;rw[<-h3]
 rcases Z with Z|Z
 . subst Z;show acc=acc++dec 0 _;unfold dec;simp
 . have:dec (2000 - k) (bs.drop (5*k))=[]:=by
    cases hn:2000 - k with
    |zero=>rfl
    |succ n=>unfold dec;rw[aV (by rw[List.length_drop];omega)]
   rw[this];simp
theorem getD_drop (bs:List Int) (k j:Nat):(bs.drop k).getD j 0=bs.getD (k+j) 0:=by
 simp[mM]
def V (e:En):Prop:=
 0<=e.s∧e.s<=7∧
 ((e.k = 1 ∧ 1 <= e.lv ∧ e.lv <= 3 ∧ e.ok = 0 ∧ e.oy = 0 ∧ e.oh = 0 ∧ e.ov = 0) ∨
  (e.k = 2 ∧ e.lv = 0 ∧ 0 <= e.oy ∧ e.oy <= 255 ∧
    (((e.ok = 1 ∨ e.ok = 4) ∧ e.oh = 0 ∧ e.ov = 0) ∨ ((e.ok = 2 ∨ e.ok = 3) ∧ e.oh = 0 ∧ 0 <= e.ov ∧ e.ov <= 255) ∨
     (e.ok=5∧0<=e.oh∧e.oh<=255∧e.ov=0)∨((e.ok=6∨e.ok=7)∧e.oy=0∧e.oh=0∧e.ov=0)))∨
  (e.k=3∧e.lv=0∧e.ok=0∧e.oy=0∧e.oh=0∧e.ov=0)∨
  (e.k=4∧e.s=0∧e.lv=0∧e.ok=0∧e.oy=0∧e.oh=0∧e.ov=0))
def c0 (e:En):Int:=e.k - 1
def c2 (e:En):Int:=if e.k=2 then e.ok*8 else e.lv
def c4 (e:En):Int:=if e.k=2 then (if e.ok=5 then e.oh else e.ov) else 0
theorem V.bytes {e:En} (h:V e):0<=c0 e∧c0 e<=3∧0<=e.s∧e.s<=7∧0<=c2 e∧c2 e<=255∧0<=e.oy∧e.oy<=255∧0<=c4 e∧c4 e<=255∧0<=e.lv∧e.lv<=255∧0<=e.ok∧e.ok<=255:=by
 obtain⟨k,s,lv,ok,oy,oh,ov⟩:=e;unfold V at h;unfold c0 c2 c4;simp only at h ⊢
 by_cases Z:k=2
 . rw[aV Z,aV Z]
   by_cases ho:ok=5
   . rw[aV ho];omega
   . rw[aR ho];omega
 . rw[aR Z,aR Z];omega
theorem Lp {a b:En} (h1:a.k=b.k) (h2:a.s=b.s) (h3:a.lv=b.lv) (h4:a.ok=b.ok) (h5:a.oy=b.oy) (h6:a.oh=b.oh) (h7:a.ov=b.ov):a=b:=by
 cases a;cases b;simp_all
theorem V.again {e:En} (h:V e):qM (c0 e) e.s (c2 e) e.oy (c4 e)=e:=by
 obtain⟨k,s,lv,ok,oy,oh,ov⟩:=e;unfold V at h;have h2:c2 ⟨k,s,lv,ok,oy,oh,ov⟩=if k=2 then ok*8 else lv:=rfl
 have h4:c4 ⟨k,s,lv,ok,oy,oh,ov⟩=if k=2 then (if ok=5 then oh else ov) else 0:=rfl
 have h0:c0 ⟨k,s,lv,ok,oy,oh,ov⟩=k - 1:=rfl;rw[h0];simp only at h ⊢;generalize c2 ⟨k,s,lv,ok,oy,oh,ov⟩=b2 at*;generalize c4 ⟨k,s,lv,ok,oy,oh,ov⟩=b4 at*
 by_cases Z:k=2
 . rw[aV Z] at h2 h4
   subst h2;have h4':(ok=5∧b4=oh)∨(ok≠5∧b4=ov):=by
    by_cases ho:ok=5
    . rw[aV ho] at h4;exact .inl ⟨ho,h4⟩
    . rw[aR ho] at h4;exact .inr ⟨ho,h4⟩
   clear h4;unfold qM Nq gG
   repeat' split
   all_goals first|(exfalso;omega)|(apply Lp<;>simp only[]<;>omega)
 . rw[aR Z] at h2 h4
   subst h2 h4;unfold qM Nq gG
   repeat' split
   all_goals first|(exfalso;omega)|(apply Lp<;>simp only[]<;>omega)
theorem V.mk {k s lv ok oy oh ov : Int} (h : 0 <= s ∧ s <= 7 ∧
  ((k = 1 ∧ 1 <= lv ∧ lv <= 3 ∧ ok = 0 ∧ oy = 0 ∧ oh = 0 ∧ ov = 0) ∨
   (k = 2 ∧ lv = 0 ∧ 0 <= oy ∧ oy <= 255 ∧
     (((ok = 1 ∨ ok = 4) ∧ oh = 0 ∧ ov = 0) ∨ ((ok = 2 ∨ ok = 3) ∧ oh = 0 ∧ 0 <= ov ∧ ov <= 255) ∨
      (ok=5∧0<=oh∧oh<=255∧ov=0)∨((ok=6∨ok=7)∧oy=0∧oh=0∧ov=0)))∨
   (k=3∧lv=0∧ok=0∧oy=0∧oh=0∧ov=0)∨
   (k=4∧s=0∧lv=0∧ok=0∧oy=0∧oh=0∧ov=0))):V ⟨k,s,lv,ok,oy,oh,ov⟩:=h
theorem V.told {b0 b1 b2 b3 b4:Int} (p1:0<=b1) (p2:0<=b2) (q2:b2<256) (p3:0<=b3) (q3:b3<256) (p4:0<=b4) (q4:b4<256) (h:(qM b0 b1 b2 b3 b4).k≠5):V (qM b0 b1 b2 b3 b4):=by
 unfold qM Nq gG at h ⊢
 split at h
 . exact absurd rfl h
 . rw[aR (by omega)]
   split at h
   . rw[aV (by assumption)]
     exact V.mk ⟨p1,by omega,.inl ⟨rfl,by omega,by omega,rfl,rfl,rfl,rfl⟩⟩
   . rw[aR (by assumption)]
     split at h
     . rw[aV (by assumption)]
       split at h
       . exact absurd rfl h
       . rw[aR (by assumption)]
         split at h
         . rw[aV (by assumption)]
           exact V.mk ⟨p1,by omega,.inr (.inl ⟨rfl,rfl,p3,by omega,.inr (.inr (.inl ⟨rfl,p4,by omega,rfl⟩))⟩)⟩
         . rw[aR (by assumption)]
           split at h
           . rw[aV (by assumption)]
             exact V.mk ⟨p1,by omega,.inr (.inl ⟨rfl,rfl,p3,by omega,.inr (.inl ⟨by assumption,rfl,p4,by omega⟩)⟩)⟩
           . rw[aR (by assumption)]
             split at h
             . exact absurd rfl h
             . rw[aR (by assumption)]
               by_cases h67:6<=b2 / 8
               . exact V.mk ⟨p1,by omega,.inr (.inl ⟨rfl,rfl,p3,by omega,.inr (.inr (.inr ⟨by omega,by omega,rfl,rfl⟩))⟩)⟩
               . exact V.mk ⟨p1,by omega,.inr (.inl ⟨rfl,rfl,p3,by omega,.inl ⟨by omega,rfl,rfl⟩⟩)⟩
     . rw[aR (by assumption)]
       split at h
       . rw[aV (by assumption)]
         by_cases h02:b0=2
         . exact V.mk ⟨p1,by omega,.inr (.inr (.inl ⟨by omega,rfl,rfl,rfl,rfl,rfl⟩))⟩
         . exact V.mk ⟨p1,by omega,.inr (.inr (.inr ⟨by omega,by omega,rfl,rfl,rfl,rfl,rfl⟩))⟩
       . exact absurd rfl h
def r2 (e:En):Int:=if e.k=1 then e.lv % 256 else if e.k=2 then e.ok*8 % 256 else 0
def r3 (e:En):Int:=if e.k=2 then e.oy % 256 else 0
def r4 (e:En):Int:=if e.k=2 then (if e.ok=5 then e.oh % 256 else e.ov % 256) else 0
theorem V.ref {e:En} (h:V e):(e.k - 1) % 256=c0 e∧e.s % 256=e.s∧r2 e=c2 e∧r3 e=e.oy∧r4 e=c4 e:=by
 obtain⟨k,s,lv,ok,oy,oh,ov⟩:=e;unfold V at h;unfold c0 c2 c4 r2 r3 r4;simp only at h ⊢
 by_cases Z:k=2
 . rw[aR (show ¬ k=1 by omega),aV Z,aV Z,aV Z,aV Z,aV Z]
   by_cases ho:ok=5
   . rw[aV ho,aV ho];omega
   . rw[aR ho,aR ho];omega
 . rw[aR Z,aR Z,aR Z,aR Z]
   by_cases h1:k=1
   . rw[aV h1];omega
   . rw[aR h1,aR Z];omega
theorem V.Rb {e:En} (h5:e.k≠5) (h:qM ((e.k - 1) % 256) (e.s % 256) (r2 e) (r3 e) (r4 e)=e):V e:=by
 have b2:0<=r2 e∧r2 e<256:=by unfold r2;split<;>(try split)<;>omega
 have b3:0<=r3 e∧r3 e<256:=by unfold r3;split<;>omega
 have b4:0<=r4 e∧r4 e<256:=by unfold r4;split<;>(try split)<;>omega
 have:=V.told (b0:=(e.k - 1) % 256) (b1:=e.s % 256) (b2:=r2 e) (b3:=r3 e) (b4:=r4 e) (by omega) b2.1 b2.2 b3.1 b3.2 b4.1 b4.2 (by rw[h];exact h5);rw[h] at this;exact this
theorem V.OI {e:En} (h5:e.k≠5) (hs:0<=e.s) (h2:0<=c2 e∧c2 e<=255) (h3:0<=e.oy∧e.oy<=255) (h4:0<=c4 e∧c4 e<=255) (h:qM (c0 e) e.s (c2 e) e.oy (c4 e)=e):V e:=by
 have:=V.told (b0:=c0 e) (b1:=e.s) (b2:=c2 e) (b3:=e.oy) (b4:=c4 e) hs h2.1 (by omega) h3.1 (by omega) h4.1 (by omega) (by rw[h];exact h5);rw[h] at this;exact this
end Go.Proofs.YthicolbbmjfkfaaGreat.bR
