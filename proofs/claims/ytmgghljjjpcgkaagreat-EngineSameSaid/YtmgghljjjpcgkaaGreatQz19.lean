import Derived.Test.YtmgghljjjpcgkaaGreatQz18
namespace Go.Proofs.YtmgghljjjpcgkaaGreat.Em
open Go.ChangeShapes Go.WideShapes Go.ChangeAt Go.RowKit En
set_option linter.unusedVariables false
set_option linter.unusedSimpArgs false
set_option maxRecDepth 100000
set_option maxHeartbeats 1600000
section
variable {L L':Lab} {w w':World}
theorem PRow.soft {v:Value} {xs:List Value} (f:PRow L w v xs) (h:Soft L w L' w'):PRow L' w' v xs:=by
 refine⟨f.1.soft h,fun g off n cap hv=>?_⟩
 rcases f.2 g off n cap hv with h0|⟨cs,hc⟩
 · exact .inl h0
 · by_cases hn:n=0
   · exact .inl hn
   · obtain⟨ad,n',cap',e1,e2,e3,e4,e5⟩:=f.1
     obtain⟨rfl,rfl,rfl⟩:ad=some ⟨g,off,none⟩∧n'=n∧cap'=cap:=by rw[hv] at e1;simp at e1;exact⟨e1.1.symm,e1.2.1.symm,e1.2.2.symm⟩
     obtain⟨g',off',e6,e7,e8,_⟩:=e5.resolve_left hn;obtain⟨rfl,rfl⟩:g=g'∧off=off':=by simpa using e6
     exact .inr ⟨cs,(h.block g e8 e7).trans hc⟩
theorem Evs.soft (h:Soft L w L' w'):∀ {l:List Ev} {xs:List Value},Evs L w l xs→Evs L' w' l xs
 |[],_,f=>f
 |_::_,_,⟨vp,ys,h1,h2,h3⟩=>⟨vp,ys,h1,h2.soft h,Evs.soft h h3⟩
structure Rown (L:Lab) (w:World) (L':Lab) (w':World) (ob:Option Nat):Prop where
 os:w'.os=w.os
 tape:w'.tape=w.tape
 output:w'.output=w.output
 size:w.heap.size≤w'.heap.size
 block:∀ k,k<w.heap.size→some k≠ob→w'.heap[k]? =w.heap[k]?
 lab:∀ k,k<w.heap.size→L' k=L k
 fresh:∀ k,w'.heap.size≤k→L' k=none
 tmp:∀ b,ob=some b→L b=some .tmp
theorem Rown.soft {ob:Option Nat} (h:Rown L w L' w' ob):Soft L w L' w':=⟨h.size,fun b hb e=>h.block b hb (by intro hh;rw[h.tmp b hh.symm] at e;cases e),fun b hb e=>(h.lab b hb).trans e⟩
end
theorem mem_lab (A:Book) (L:Lab) (σ:St) (q:Role):memOf {A with L:=L} σ q=memOf A σ q:=by cases q<;>rfl
theorem Rep.rown {A:Book} {σ:St} {w w':World} {L':Lab} {ob:Option Nat} (hR:Rep A σ w) (h:Rown A.L w L' w' ob):Rep {A with L:=L'} σ w':=by
 refine⟨⟨fun r=>?_,h.fresh⟩,hR.ev.soft h.soft,hR.sl,hR.nw,hR.nt,hR.nv,hR.n8,hR.nc⟩;rw[mem_lab]
 by_cases hr:r=.tmp
 · subst hr;trivial
 · refine (hR.mem.all r).frame (fun k hk hk'=>h.block k hk ?_) h.lab
   intro hh;rw[h.tmp k hh.symm] at hk';exact hr (Option.some.inj hk').symm
theorem Live.rown {A:Book} {σ:St} {w w':World} {L':Lab} {ob:Option Nat} (hL:Live A σ w) (h:Rown A.L w L' w' ob):Live {A with L:=L'} σ w':=
 ⟨hL.rep.rown h,hL.mp,hL.mt,fun s hs c hc=>let ⟨e1,k,e2,e3⟩:=hL.call s hs c hc;⟨e1,k,e2,(show KRep (kp A σ s) L' w' (A.vnext s) k from e3.soft h.soft)⟩,hL.idle,hL.sx.soft rfl h.soft⟩
theorem Grow.rown {L0 L L':Lab} {w0 w w':World} {ob:Option Nat} (g:Grow L0 w0 L w) (h:Rown L w L' w' ob) (hb:∀ b,ob=some b→w0.heap.size≤b):Grow L0 w0 L' w':=
 have hne:∀ k,k<w0.heap.size→some k≠ob:=fun k hk hh=>by have:=hb k hh.symm;omega
 ⟨h.os.trans g.os,h.tape.trans g.tape,h.output.trans g.output,Nat.le_trans g.size h.size,fun k hk hl=>(h.block k (Nat.lt_of_lt_of_le hk g.size) (hne k hk)).trans (g.block k hk hl),fun k hk=>(h.lab k (Nat.lt_of_lt_of_le hk g.size)).trans (g.lab k hk),fun k hk hl=>(h.block k (Nat.lt_of_lt_of_le hk g.size) (hne k hk)).trans (g.keep k hk hl)⟩
def TmpRow (L:Lab) (v:Value):Prop:=∀ b,v.ownBlock=some b→L b=some .tmp
theorem append_tmp {A:Book} {σ:St} {w w':World} {v v':Value} {base:Nat} {e:TypeId} {size n:Nat} {xs:List Value} (hL:Live A σ w) (hv:TmpRow A.L v) (hown:w'.ownsRow base e size v' n xs) (hg:w.grownBy w' v.ownBlock) (h3:v'.ownBlock=v.ownBlock∨∀ g,v'.ownBlock=some g→w.heap.size≤g):
 ∃ L',Rown A.L w L' w' v.ownBlock∧TmpRow L' v':=by
 have hf:∀ k,w'.heap.size≤k→A.L k=none:=fun k hk=>hL.rep.mem.fresh k (Nat.le_trans hg.size hk)
 by_cases hs:v'.ownBlock=v.ownBlock
 · exact⟨A.L,⟨hg.os,hg.tape,hg.output,hg.size,hg.block,fun _ _=>rfl,hf,hv⟩,fun b hb=>hv b (hs.symm.trans hb)⟩
 · cases hb:v'.ownBlock with
   |none=>exact⟨A.L,⟨hg.os,hg.tape,hg.output,hg.size,hg.block,fun _ _=>rfl,hf,hv⟩,fun b hb'=>by rw[hb] at hb';cases hb'⟩
   |some g=>
    have hge:=(h3.resolve_left hs) g hb;have hlt:=(hown.lt g hb).2;refine⟨lab1 A.L g .tmp,⟨hg.os,hg.tape,hg.output,hg.size,hg.block,fun k hk=>lab1_other (by omega),fun k hk=>?_,hv⟩,fun b hb'=>?_⟩
    · rw[lab1_other (by omega)];exact hf k hk
    · obtain rfl:g=b:=Option.some.inj (hb.symm.trans hb')
      exact lab1_same _ _ _
theorem Grow.soft {L L':Lab} {w w':World} (g:Grow L w L' w'):Soft L w L' w':=⟨g.size,g.block,fun b hb e=>(g.lab b hb).trans e⟩
variable {A:Book} {σ:St} {w:World}
theorem heap_setCells9 {w:World} {b:Nat} {a0 a1 a2 a3 a4 a5 a6 a7 a8:Value} {T:TypeId} (h:w.heap[b]? =some (.cells #[a0,a1,a2,a3,a4,a5,a6,a7,a8] T)) (v0 v1 v2 v3 v4 v5 v6 v7 v8:Value):(w.setCells b 0 [v0,v1,v2,v3,v4,v5,v6,v7,v8]).heap[b]? =some (.cells #[v0,v1,v2,v3,v4,v5,v6,v7,v8] T):=by
 have h0:=heap_setCell_same h 0 v0;have h1:=heap_setCell_same h0 1 v1;have h2:=heap_setCell_same h1 2 v2;have h3:=heap_setCell_same h2 3 v3;have h4:=heap_setCell_same h3 4 v4;have h5:=heap_setCell_same h4 5 v5;have h6:=heap_setCell_same h5 6 v6;have h7:=heap_setCell_same h6 7 v7;have h8:=heap_setCell_same h7 8 v8
 simpa [World.setCells] using h8
theorem Below.setCells9 {B b:Nat} {a w:World} (h:Below B a w) (hb:B≤b) (v0 v1 v2 v3 v4 v5 v6 v7 v8:Value):Below B a (w.setCells b 0 [v0,v1,v2,v3,v4,v5,v6,v7,v8]):=
 ((((((((h.setCell (p:=⟨b,0,none⟩) hb v0).setCell (p:=⟨b,1,none⟩) hb v1).setCell (p:=⟨b,2,none⟩) hb v2).setCell (p:=⟨b,3,none⟩) hb v3).setCell (p:=⟨b,4,none⟩) hb v4).setCell (p:=⟨b,5,none⟩) hb v5).setCell (p:=⟨b,6,none⟩) hb v6).setCell (p:=⟨b,7,none⟩) hb v7).setCell (p:=⟨b,8,none⟩) hb v8
def statusCs (x:Status):Array Value:=#[.bool x.live,.bool x.busy,.bool x.waits,zi (x.id:Int),zi (x.level:Int),zi (x.state:Int),zu (x.begin_:Int),zu (x.end_:Int),zi (x.ops:Int)]
theorem status_none (hR:Rep A σ w) (s:Nat) (hs:s<8) (ht:σ.txns.getD s none=none):
 Calls Tryz.prog 9 #[.pointer (some ⟨A.be,0,none⟩),zi (s:Int)] w fun e w'=>e=.returned (.agg #[.bool false,.bool false,.bool false,zi 0,zi 0,zi 0,zu 0,zu 0,zi 0])∧Below w.heap.size w w':=by
 have b1:(s:Int)<8:=by omega
 have b0:(0:Int)≤(s:Int):=by omega
 have hsok:=zH (sessionOk s hs);have r1:=hR.alloc (.cells #[.bool false,.bool false,.bool false,zi 0,zi 0,zi 0,zu 0,zu 0,zi 0] 40);have v5:=r1.eng (5+s) (engCs_txn A σ hs);rw[show A.tp σ s=.pointer none by unfold Book.tp;rw[ht]] at v5;clear hR hs ht r1;go_enter Tryz.func9,Tryz.ntmps9;go_wp2_with (go_at_call 33;refine (hsok.out _).mono ?_;rintro e w' ⟨rfl,rfl⟩)
 (try simp only[Exit.inBlock,Exit.then])
 refine bodyPost_ret (results_cell_row rfl _ _ w.heap.size 40 #[.bool false,.bool false,.bool false,zi 0,zi 0,zi 0,zu 0,zu 0,zi 0] _ _ rfl (heap_alloc_new w _) Tryz.underlying40 rfl (by kernel_rfl)) rfl ?_;exact⟨rfl,(Below.refl _ w).alloc (Nat.le_refl _) _⟩
theorem status_00 (hL:Live A σ w) (s:Nat) (hs:s<8) (t:Txn) (ht:σ.txns.getD s none=some t) (he:t.end_=0) (hc:σ.calls.getD s none=none):
 Calls Tryz.prog 9 #[.pointer (some ⟨A.be,0,none⟩),zi (s:Int)] w fun e w'=>e=.returned (.agg #[.bool true,.bool false,.bool false,zi (t.id:Int),zi (t.level:Int),zi 1,zu (t.begin_:Int),zu (t.end_:Int),zi (t.ops:Int)])∧Below w.heap.size w w':=by
 have hR:=hL.rep;have b1:(s:Int)<8:=by omega
 have b0:(0:Int)≤(s:Int):=by omega
 have hsok:=zH (sessionOk s hs);have r1:=hR.alloc (.cells #[.bool false,.bool false,.bool false,zi 0,zi 0,zi 0,zu 0,zu 0,zi 0] 40);have H1:Hid (∀ w',Below (w.alloc (.cells #[.bool false,.bool false,.bool false,zi 0,zi 0,zi 0,zu 0,zu 0,zi 0] 40)).heap.size (w.alloc (.cells #[.bool false,.bool false,.bool false,zi 0,zi 0,zi 0,zu 0,zu 0,zi 0] 40)) w'→w'.cell? ⟨A.be,5+s,none⟩=some (.pointer (some ⟨A.bt s,0,none⟩))∧w'.cell? ⟨A.be,13+s,none⟩=some (.pointer none)∧w'.cell? ⟨A.bt s,0,none⟩=some (zi (t.id:Int))∧w'.cell? ⟨A.bt s,1,none⟩=some (zi (t.level:Int))∧w'.cell? ⟨A.bt s,3,none⟩=some (zu (t.begin_:Int))∧w'.cell? ⟨A.bt s,4,none⟩=some (zu (t.end_:Int))∧w'.cell? ⟨A.bt s,5,none⟩=some (zi (t.ops:Int))):=by
  intro w' hb;have r:=r1.below hb;have h5:=r.eng (5+s) (engCs_txn A σ hs);rw[show A.tp σ s=.pointer (some ⟨A.bt s,0,none⟩) by unfold Book.tp;rw[ht]] at h5;have h13:=r.eng (13+s) (engCs_call A σ hs);rw[hL.idle s hs hc] at h13;exact⟨h5,h13,r.txn ht 0 rfl,r.txn ht 1 rfl,r.txn ht 3 rfl,r.txn ht 4 rfl,r.txn ht 5 rfl⟩
 obtain⟨v5,v13,t0,t1,t3,t4,t5⟩:=H1.out _ (Below.refl _ _);obtain⟨fe1,fe2,fe3,fe4,fe5⟩:=zeT (x:=t.end_) (c:=0) (ci:=0) (by omega);have ff1:decide ((0:Int)<(t.end_:Int))=false:=by simp<;>omega
 have ff2:((0:Int)<(t.end_:Int))=False:=by simp<;>omega
 have ff3:(0<t.end_)=False:=by simp<;>omega
 have ff4:decide (0<t.end_)=false:=by simp<;>omega
 clear hL hR hs ht r1 he;go_enter Tryz.func9,Tryz.ntmps9;go_wp2_with (go_at_call 33;refine (hsok.out _).mono ?_;rintro e w' ⟨rfl,rfl⟩);have HZ0:Hid ((w.alloc (.cells #[.bool false,.bool false,.bool false,zi 0,zi 0,zi 0,zu 0,zu 0,zi 0] 40)).heap[w.heap.size]? =some (.cells #[.bool false,.bool false,.bool false,zi 0,zi 0,zi 0,zu 0,zu 0,zi 0] 40)∧Below w.heap.size w (w.alloc (.cells #[.bool false,.bool false,.bool false,zi 0,zi 0,zi 0,zu 0,zu 0,zi 0] 40))∧w.heap.size<(w.alloc (.cells #[.bool false,.bool false,.bool false,zi 0,zi 0,zi 0,zu 0,zu 0,zi 0] 40)).heap.size):=⟨heap_alloc_new w _,(Below.refl _ w).alloc (Nat.le_refl _) _,by simp⟩
 clear v5 v13 t0 t1 t3 t4 t5;generalize hw0:w.alloc _=w0 at*;obtain⟨v5,v13,t0,t1,t3,t4,t5⟩:=H1.out w0 (Below.refl _ _)
 go_quiet (fail)
 clear v5 v13 t0 t1 t3 t4 t5;generalize hw5:w0.drewN _=w5;have hb5:Below w0.heap.size w0 w5:=by rw[←hw5];exact⟨rfl,rfl,rfl,Nat.le_refl _,fun _ _=>rfl⟩
 obtain⟨v5,v13,t0,t1,t3,t4,t5⟩:=H1.out w5 hb5;obtain⟨_,_,y0,y1,y3,y4,y5⟩:=H1.out (w5.alloc (.cells #[.bool false,.bool false,.bool false,zi 0,zi 0,zi 0,zu 0,zu 0,zi 0] 40)) (hb5.alloc hb5.size _);go_wp2_with fail
 go_region
 generalize hw6:World.drew _=w6;have F6:Fix (fun _=>none) w6 w5.heap.size (.cells #[.bool true,.bool false,.bool false,zi (t.id:Int),zi (t.level:Int),zi 1,zu (t.begin_:Int),zu (t.end_:Int),zi (t.ops:Int)] 40):=⟨rfl,by rw[←hw6];exact heap_alloc_new w5 _⟩
 have hb6:Below w0.heap.size w0 w6:=by rw[←hw6];exact (hb5.alloc hb5.size _).drew
 have hz6:w5.heap.size<w6.heap.size:=lt_of F6.2;have HB6:=zH (zA hb6 (zA F6 hb5.size));obtain⟨_,_,_,_,_,u4,_⟩:=H1.out w6 hb6;clear v5 v13 t0 t1 t3 t4 t5 y0 y1 y3 y4 y5;have s0:=F6.cell 0 (v:=.bool true) rfl;have s1:=F6.cell 1 (v:=.bool false) rfl;have s2:=F6.cell 2 (v:=.bool false) rfl;have s3:=F6.cell 3 (v:=zi (t.id:Int)) rfl;have s4:=F6.cell 4 (v:=zi (t.level:Int)) rfl;have s5:=F6.cell 5 (v:=zi 1) rfl;have s6:=F6.cell 6 (v:=zu (t.begin_:Int)) rfl;have s7:=F6.cell 7 (v:=zu (t.end_:Int)) rfl;have s8:=F6.cell 8 (v:=zi (t.ops:Int)) rfl;have z5:=F6.frozen 5;have f7:Fix (fun _=>none) w6 w5.heap.size (.cells #[.bool true,.bool false,.bool false,zi (t.id:Int),zi (t.level:Int),zi 1,zu (t.begin_:Int),zu (t.end_:Int),zi (t.ops:Int)] 40):=F6;have hb7:Below w0.heap.size w0 w6:=hb6;have hb8:Below w0.heap.size w0 w6:=hb7;have HTH:=zH (there_of (hb8.block w.heap.size HZ0.out.2.2 |>.trans HZ0.out.1));have hfin:=heap_setCells9 (hb8.block w.heap.size HZ0.out.2.2 |>.trans HZ0.out.1) (.bool true) (.bool false) (.bool false) (zi (t.id:Int)) (zi (t.level:Int)) (zi 1) (zu (t.begin_:Int)) (zu (t.end_:Int)) (zi (t.ops:Int));have HFN:=zH hfin;have HBL:=zH (Below.setCells9 (HZ0.out.2.1.trans (hb8.mono (Nat.le_of_lt HZ0.out.2.2))) (Nat.le_refl _) (.bool true) (.bool false) (.bool false) (zi (t.id:Int)) (zi (t.level:Int)) (zi 1) (zu (t.begin_:Int)) (zu (t.end_:Int)) (zi (t.ops:Int)));clear hfin;clear hb8 F6 hb6 f7 hb7 hw6;go_wp2_with (refine wpList_store_mid rfl 40 (.tmp 4) (.tmp 68) rfl w.heap.size 0 #[.bool true,.bool false,.bool false,zi (t.id:Int),zi (t.level:Int),zi 1,zu (t.begin_:Int),zu (t.end_:Int),zi (t.ops:Int)] rfl rfl HTH.out (by kernel_rfl) (by simp[Value.oneCell']) ?_;generalize hws:World.setCells _ _ _ _=ws);have hbut:Below w.heap.size w (w6.setCells w.heap.size 0 [.bool true,.bool false,.bool false,zi (t.id:Int),zi (t.level:Int),zi 1,zu (t.begin_:Int),zu (t.end_:Int),zi (t.ops:Int)]):=HBL.out;have hfin:=HFN.out;rw[show w6.setCells w.heap.size 0 [.bool true,.bool false,.bool false,zi (t.id:Int),zi (t.level:Int),zi 1,zu (t.begin_:Int),zu (t.end_:Int),zi (t.ops:Int)]=ws from hws] at hbut hfin
 (try simp only[Exit.inBlock,Exit.then])
 refine bodyPost_ret (results_cell_row rfl _ _ w.heap.size 40 #[.bool true,.bool false,.bool false,zi (t.id:Int),zi (t.level:Int),zi 1,zu (t.begin_:Int),zu (t.end_:Int),zi (t.ops:Int)] _ _ rfl hfin Tryz.underlying40 rfl (by kernel_rfl)) rfl ?_;exact⟨rfl,hbut⟩
theorem status_01 (hL:Live A σ w) (s:Nat) (hs:s<8) (t:Txn) (ht:σ.txns.getD s none=some t) (he:t.end_=0) (c:Cal) (hc:σ.calls.getD s none=some c):
 Calls Tryz.prog 9 #[.pointer (some ⟨A.be,0,none⟩),zi (s:Int)] w fun e w'=>e=.returned (.agg #[.bool true,.bool true,.bool c.waits,zi (t.id:Int),zi (t.level:Int),zi 1,zu (t.begin_:Int),zu (t.end_:Int),zi (t.ops:Int)])∧Below w.heap.size w w':=by
 have hR:=hL.rep;have b1:(s:Int)<8:=by omega
 have b0:(0:Int)≤(s:Int):=by omega
 have hsok:=zH (sessionOk s hs);have r1:=hR.alloc (.cells #[.bool false,.bool false,.bool false,zi 0,zi 0,zi 0,zu 0,zu 0,zi 0] 40);have H1:Hid (∀ w',Below (w.alloc (.cells #[.bool false,.bool false,.bool false,zi 0,zi 0,zi 0,zu 0,zu 0,zi 0] 40)).heap.size (w.alloc (.cells #[.bool false,.bool false,.bool false,zi 0,zi 0,zi 0,zu 0,zu 0,zi 0] 40)) w'→w'.cell? ⟨A.be,5+s,none⟩=some (.pointer (some ⟨A.bt s,0,none⟩))∧w'.cell? ⟨A.be,13+s,none⟩=some (.pointer (some ⟨A.bc s,0,none⟩))∧w'.cell? ⟨A.bt s,0,none⟩=some (zi (t.id:Int))∧w'.cell? ⟨A.bt s,1,none⟩=some (zi (t.level:Int))∧w'.cell? ⟨A.bt s,3,none⟩=some (zu (t.begin_:Int))∧w'.cell? ⟨A.bt s,4,none⟩=some (zu (t.end_:Int))∧w'.cell? ⟨A.bt s,5,none⟩=some (zi (t.ops:Int))∧w'.cell? ⟨A.bc s,10,none⟩=some (.bool c.waits)):=by
  intro w' hb;have r:=r1.below hb;have h5:=r.eng (5+s) (engCs_txn A σ hs);rw[show A.tp σ s=.pointer (some ⟨A.bt s,0,none⟩) by unfold Book.tp;rw[ht]] at h5;have h13:=r.eng (13+s) (engCs_call A σ hs);rw[(hL.call s hs c hc).1,show ptr (A.bc s)=.pointer (some ⟨A.bc s,0,none⟩) from rfl] at h13;exact⟨h5,h13,r.txn ht 0 rfl,r.txn ht 1 rfl,r.txn ht 3 rfl,r.txn ht 4 rfl,r.txn ht 5 rfl,r.call hc 10 rfl⟩
 obtain⟨v5,v13,t0,t1,t3,t4,t5,c10⟩:=H1.out _ (Below.refl _ _);obtain⟨fe1,fe2,fe3,fe4,fe5⟩:=zeT (x:=t.end_) (c:=0) (ci:=0) (by omega);have ff1:decide ((0:Int)<(t.end_:Int))=false:=by simp<;>omega
 have ff2:((0:Int)<(t.end_:Int))=False:=by simp<;>omega
 have ff3:(0<t.end_)=False:=by simp<;>omega
 have ff4:decide (0<t.end_)=false:=by simp<;>omega
 clear hL hR hs ht r1 he;go_enter Tryz.func9,Tryz.ntmps9;go_wp2_with (go_at_call 33;refine (hsok.out _).mono ?_;rintro e w' ⟨rfl,rfl⟩);have HZ0:Hid ((w.alloc (.cells #[.bool false,.bool false,.bool false,zi 0,zi 0,zi 0,zu 0,zu 0,zi 0] 40)).heap[w.heap.size]? =some (.cells #[.bool false,.bool false,.bool false,zi 0,zi 0,zi 0,zu 0,zu 0,zi 0] 40)∧Below w.heap.size w (w.alloc (.cells #[.bool false,.bool false,.bool false,zi 0,zi 0,zi 0,zu 0,zu 0,zi 0] 40))∧w.heap.size<(w.alloc (.cells #[.bool false,.bool false,.bool false,zi 0,zi 0,zi 0,zu 0,zu 0,zi 0] 40)).heap.size):=⟨heap_alloc_new w _,(Below.refl _ w).alloc (Nat.le_refl _) _,by simp⟩
 clear v5 v13 t0 t1 t3 t4 t5 c10;generalize hw0:w.alloc _=w0 at*;obtain⟨v5,v13,t0,t1,t3,t4,t5,c10⟩:=H1.out w0 (Below.refl _ _)
 go_quiet (fail)
 clear v5 v13 t0 t1 t3 t4 t5 c10;generalize hw5:w0.drewN _=w5;have hb5:Below w0.heap.size w0 w5:=by rw[←hw5];exact⟨rfl,rfl,rfl,Nat.le_refl _,fun _ _=>rfl⟩
 obtain⟨v5,v13,t0,t1,t3,t4,t5,c10⟩:=H1.out w5 hb5;obtain⟨_,_,y0,y1,y3,y4,y5,y10⟩:=H1.out (w5.alloc (.cells #[.bool false,.bool false,.bool false,zi 0,zi 0,zi 0,zu 0,zu 0,zi 0] 40)) (hb5.alloc hb5.size _);go_wp2_with fail
 go_region
 generalize hw6:World.drew _=w6;have F6:Fix (fun _=>none) w6 w5.heap.size (.cells #[.bool true,.bool false,.bool false,zi (t.id:Int),zi (t.level:Int),zi 1,zu (t.begin_:Int),zu (t.end_:Int),zi (t.ops:Int)] 40):=⟨rfl,by rw[←hw6];exact heap_alloc_new w5 _⟩
 have hb6:Below w0.heap.size w0 w6:=by rw[←hw6];exact (hb5.alloc hb5.size _).drew
 have hz6:w5.heap.size<w6.heap.size:=lt_of F6.2;have HB6:=zH (zA hb6 (zA F6 hb5.size));obtain⟨_,_,_,_,_,u4,_,_⟩:=H1.out w6 hb6;clear v5 v13 t0 t1 t3 t4 t5 y0 y1 y3 y4 y5 c10 y10;have s0:=F6.cell 0 (v:=.bool true) rfl;have s1:=F6.cell 1 (v:=.bool false) rfl;have s2:=F6.cell 2 (v:=.bool false) rfl;have s3:=F6.cell 3 (v:=zi (t.id:Int)) rfl;have s4:=F6.cell 4 (v:=zi (t.level:Int)) rfl;have s5:=F6.cell 5 (v:=zi 1) rfl;have s6:=F6.cell 6 (v:=zu (t.begin_:Int)) rfl;have s7:=F6.cell 7 (v:=zu (t.end_:Int)) rfl;have s8:=F6.cell 8 (v:=zi (t.ops:Int)) rfl;have z5:=F6.frozen 5;have f7:Fix (fun _=>none) w6 w5.heap.size (.cells #[.bool true,.bool false,.bool false,zi (t.id:Int),zi (t.level:Int),zi 1,zu (t.begin_:Int),zu (t.end_:Int),zi (t.ops:Int)] 40):=F6;have hb7:Below w0.heap.size w0 w6:=hb6;obtain⟨_,_,_,_,_,_,_,c10⟩:=H1.out w6 hb7;have q0:=f7.cell 0 (v:=.bool true) rfl;have q1:=f7.cell 1 (v:=.bool false) rfl;have q2:=f7.cell 2 (v:=.bool false) rfl;have q3:=f7.cell 3 (v:=zi (t.id:Int)) rfl;have q4:=f7.cell 4 (v:=zi (t.level:Int)) rfl;have q5:=f7.cell 5 (v:=zi 1) rfl;have q6:=f7.cell 6 (v:=zu (t.begin_:Int)) rfl;have q7:=f7.cell 7 (v:=zu (t.end_:Int)) rfl;have q8:=f7.cell 8 (v:=zi (t.ops:Int)) rfl;have q1z:=f7.frozen 1;have q2z:=f7.frozen 2;have H7:=zH (zA f7 hb7);clear F6 hb6 f7 hb7 hw6;go_wp2_with fail;generalize hw7:w6=w7 at*;clear s0 s1 s2 s3 s4 s5 s6 s7 s8 z5
 go_region
 generalize hw8:World.drew _=w8;have f8:Fix (fun _=>none) w8 w5.heap.size (.cells #[.bool true,.bool true,.bool c.waits,zi (t.id:Int),zi (t.level:Int),zi 1,zu (t.begin_:Int),zu (t.end_:Int),zi (t.ops:Int)] 40):=⟨rfl,by rw[←hw8];have h:=heap_setCell_same (heap_setCell_same H7.out.1.2 1 (.bool true)) 2 (.bool c.waits);show ((w7.setCell ⟨_,1,none⟩ _).setCell ⟨_,2,none⟩ _).heap[_]? =_;simpa using h⟩
 have hb8:Below w0.heap.size w0 w8:=by rw[←hw8];exact ((H7.out.2.setCell HB6.out.2.2 _).setCell HB6.out.2.2 _).drew
 clear q0 q1 q2 q3 q4 q5 q6 q7 q8 q1z q2z c10;have r0:=f8.cell 0 (v:=.bool true) rfl;have r1:=f8.cell 1 (v:=.bool true) rfl;have r2:=f8.cell 2 (v:=.bool c.waits) rfl;have r3:=f8.cell 3 (v:=zi (t.id:Int)) rfl;have r4:=f8.cell 4 (v:=zi (t.level:Int)) rfl;have r5:=f8.cell 5 (v:=zi 1) rfl;have r6:=f8.cell 6 (v:=zu (t.begin_:Int)) rfl;have r7:=f8.cell 7 (v:=zu (t.end_:Int)) rfl;have r8:=f8.cell 8 (v:=zi (t.ops:Int)) rfl;have HTH:=zH (there_of (hb8.block w.heap.size HZ0.out.2.2 |>.trans HZ0.out.1));have hfin:=heap_setCells9 (hb8.block w.heap.size HZ0.out.2.2 |>.trans HZ0.out.1) (.bool true) (.bool true) (.bool c.waits) (zi (t.id:Int)) (zi (t.level:Int)) (zi 1) (zu (t.begin_:Int)) (zu (t.end_:Int)) (zi (t.ops:Int));have HFN:=zH hfin;have HBL:=zH (Below.setCells9 (HZ0.out.2.1.trans (hb8.mono (Nat.le_of_lt HZ0.out.2.2))) (Nat.le_refl _) (.bool true) (.bool true) (.bool c.waits) (zi (t.id:Int)) (zi (t.level:Int)) (zi 1) (zu (t.begin_:Int)) (zu (t.end_:Int)) (zi (t.ops:Int)));clear hfin;clear hb8 hw8 f8;go_wp2_with (refine wpList_store_mid rfl 40 (.tmp 4) (.tmp 68) rfl w.heap.size 0 #[.bool true,.bool true,.bool c.waits,zi (t.id:Int),zi (t.level:Int),zi 1,zu (t.begin_:Int),zu (t.end_:Int),zi (t.ops:Int)] rfl rfl HTH.out (by kernel_rfl) (by simp[Value.oneCell']) ?_;generalize hws:World.setCells _ _ _ _=ws);have hbut:Below w.heap.size w (w8.setCells w.heap.size 0 [.bool true,.bool true,.bool c.waits,zi (t.id:Int),zi (t.level:Int),zi 1,zu (t.begin_:Int),zu (t.end_:Int),zi (t.ops:Int)]):=HBL.out;have hfin:=HFN.out;rw[show w8.setCells w.heap.size 0 [.bool true,.bool true,.bool c.waits,zi (t.id:Int),zi (t.level:Int),zi 1,zu (t.begin_:Int),zu (t.end_:Int),zi (t.ops:Int)]=ws from hws] at hbut hfin
 (try simp only[Exit.inBlock,Exit.then])
 refine bodyPost_ret (results_cell_row rfl _ _ w.heap.size 40 #[.bool true,.bool true,.bool c.waits,zi (t.id:Int),zi (t.level:Int),zi 1,zu (t.begin_:Int),zu (t.end_:Int),zi (t.ops:Int)] _ _ rfl hfin Tryz.underlying40 rfl (by kernel_rfl)) rfl ?_;exact⟨rfl,hbut⟩
theorem status_10 (hL:Live A σ w) (s:Nat) (hs:s<8) (t:Txn) (ht:σ.txns.getD s none=some t) (he:0<t.end_) (hc:σ.calls.getD s none=none):
 Calls Tryz.prog 9 #[.pointer (some ⟨A.be,0,none⟩),zi (s:Int)] w fun e w'=>e=.returned (.agg #[.bool true,.bool false,.bool false,zi (t.id:Int),zi (t.level:Int),zi 2,zu (t.begin_:Int),zu (t.end_:Int),zi (t.ops:Int)])∧Below w.heap.size w w':=by
 have hR:=hL.rep;have b1:(s:Int)<8:=by omega
 have b0:(0:Int)≤(s:Int):=by omega
 have hsok:=zH (sessionOk s hs);have r1:=hR.alloc (.cells #[.bool false,.bool false,.bool false,zi 0,zi 0,zi 0,zu 0,zu 0,zi 0] 40);have H1:Hid (∀ w',Below (w.alloc (.cells #[.bool false,.bool false,.bool false,zi 0,zi 0,zi 0,zu 0,zu 0,zi 0] 40)).heap.size (w.alloc (.cells #[.bool false,.bool false,.bool false,zi 0,zi 0,zi 0,zu 0,zu 0,zi 0] 40)) w'→w'.cell? ⟨A.be,5+s,none⟩=some (.pointer (some ⟨A.bt s,0,none⟩))∧w'.cell? ⟨A.be,13+s,none⟩=some (.pointer none)∧w'.cell? ⟨A.bt s,0,none⟩=some (zi (t.id:Int))∧w'.cell? ⟨A.bt s,1,none⟩=some (zi (t.level:Int))∧w'.cell? ⟨A.bt s,3,none⟩=some (zu (t.begin_:Int))∧w'.cell? ⟨A.bt s,4,none⟩=some (zu (t.end_:Int))∧w'.cell? ⟨A.bt s,5,none⟩=some (zi (t.ops:Int))):=by
  intro w' hb;have r:=r1.below hb;have h5:=r.eng (5+s) (engCs_txn A σ hs);rw[show A.tp σ s=.pointer (some ⟨A.bt s,0,none⟩) by unfold Book.tp;rw[ht]] at h5;have h13:=r.eng (13+s) (engCs_call A σ hs);rw[hL.idle s hs hc] at h13;exact⟨h5,h13,r.txn ht 0 rfl,r.txn ht 1 rfl,r.txn ht 3 rfl,r.txn ht 4 rfl,r.txn ht 5 rfl⟩
 obtain⟨v5,v13,t0,t1,t3,t4,t5⟩:=H1.out _ (Below.refl _ _);obtain⟨fe1,fe2,fe3,fe4,fe5⟩:=zeF (x:=t.end_) (c:=0) (ci:=0) (by omega);have ff1:decide ((0:Int)<(t.end_:Int))=true:=by simp<;>omega
 have ff2:((0:Int)<(t.end_:Int))=True:=by simp<;>omega
 have ff3:(0<t.end_)=True:=by simp<;>omega
 have ff4:decide (0<t.end_)=true:=by simp<;>omega
 clear hL hR hs ht r1 he;go_enter Tryz.func9,Tryz.ntmps9;go_wp2_with (go_at_call 33;refine (hsok.out _).mono ?_;rintro e w' ⟨rfl,rfl⟩);have HZ0:Hid ((w.alloc (.cells #[.bool false,.bool false,.bool false,zi 0,zi 0,zi 0,zu 0,zu 0,zi 0] 40)).heap[w.heap.size]? =some (.cells #[.bool false,.bool false,.bool false,zi 0,zi 0,zi 0,zu 0,zu 0,zi 0] 40)∧Below w.heap.size w (w.alloc (.cells #[.bool false,.bool false,.bool false,zi 0,zi 0,zi 0,zu 0,zu 0,zi 0] 40))∧w.heap.size<(w.alloc (.cells #[.bool false,.bool false,.bool false,zi 0,zi 0,zi 0,zu 0,zu 0,zi 0] 40)).heap.size):=⟨heap_alloc_new w _,(Below.refl _ w).alloc (Nat.le_refl _) _,by simp⟩
 clear v5 v13 t0 t1 t3 t4 t5;generalize hw0:w.alloc _=w0 at*;obtain⟨v5,v13,t0,t1,t3,t4,t5⟩:=H1.out w0 (Below.refl _ _)
 go_quiet (fail)
 clear v5 v13 t0 t1 t3 t4 t5;generalize hw5:w0.drewN _=w5;have hb5:Below w0.heap.size w0 w5:=by rw[←hw5];exact⟨rfl,rfl,rfl,Nat.le_refl _,fun _ _=>rfl⟩
 obtain⟨v5,v13,t0,t1,t3,t4,t5⟩:=H1.out w5 hb5;obtain⟨_,_,y0,y1,y3,y4,y5⟩:=H1.out (w5.alloc (.cells #[.bool false,.bool false,.bool false,zi 0,zi 0,zi 0,zu 0,zu 0,zi 0] 40)) (hb5.alloc hb5.size _);go_wp2_with fail
 go_region
 generalize hw6:World.drew _=w6;have F6:Fix (fun _=>none) w6 w5.heap.size (.cells #[.bool true,.bool false,.bool false,zi (t.id:Int),zi (t.level:Int),zi 1,zu (t.begin_:Int),zu (t.end_:Int),zi (t.ops:Int)] 40):=⟨rfl,by rw[←hw6];exact heap_alloc_new w5 _⟩
 have hb6:Below w0.heap.size w0 w6:=by rw[←hw6];exact (hb5.alloc hb5.size _).drew
 have hz6:w5.heap.size<w6.heap.size:=lt_of F6.2;have HB6:=zH (zA hb6 (zA F6 hb5.size));obtain⟨_,_,_,_,_,u4,_⟩:=H1.out w6 hb6;clear v5 v13 t0 t1 t3 t4 t5 y0 y1 y3 y4 y5;have s0:=F6.cell 0 (v:=.bool true) rfl;have s1:=F6.cell 1 (v:=.bool false) rfl;have s2:=F6.cell 2 (v:=.bool false) rfl;have s3:=F6.cell 3 (v:=zi (t.id:Int)) rfl;have s4:=F6.cell 4 (v:=zi (t.level:Int)) rfl;have s5:=F6.cell 5 (v:=zi 1) rfl;have s6:=F6.cell 6 (v:=zu (t.begin_:Int)) rfl;have s7:=F6.cell 7 (v:=zu (t.end_:Int)) rfl;have s8:=F6.cell 8 (v:=zi (t.ops:Int)) rfl;have z5:=F6.frozen 5;have f7:Fix (fun _=>none) (w6.setCell ⟨w5.heap.size,5,none⟩ (zi 2)) w5.heap.size (.cells #[.bool true,.bool false,.bool false,zi (t.id:Int),zi (t.level:Int),zi 2,zu (t.begin_:Int),zu (t.end_:Int),zi (t.ops:Int)] 40):=⟨rfl,by have h:=heap_setCell_same F6.2 5 (zi 2);simpa using h⟩
 have hb7:Below w0.heap.size w0 (w6.setCell ⟨w5.heap.size,5,none⟩ (zi 2)):=hb6.setCell (HB6.out.2.2) _;have hb8:Below w0.heap.size w0 (w6.setCell ⟨w5.heap.size,5,none⟩ (zi 2)):=hb7;have HTH:=zH (there_of (hb8.block w.heap.size HZ0.out.2.2 |>.trans HZ0.out.1));have hfin:=heap_setCells9 (hb8.block w.heap.size HZ0.out.2.2 |>.trans HZ0.out.1) (.bool true) (.bool false) (.bool false) (zi (t.id:Int)) (zi (t.level:Int)) (zi 2) (zu (t.begin_:Int)) (zu (t.end_:Int)) (zi (t.ops:Int));have HFN:=zH hfin;have HBL:=zH (Below.setCells9 (HZ0.out.2.1.trans (hb8.mono (Nat.le_of_lt HZ0.out.2.2))) (Nat.le_refl _) (.bool true) (.bool false) (.bool false) (zi (t.id:Int)) (zi (t.level:Int)) (zi 2) (zu (t.begin_:Int)) (zu (t.end_:Int)) (zi (t.ops:Int)));clear hfin;clear hb8 F6 hb6 f7 hb7 hw6;go_wp2_with (refine wpList_store_mid rfl 40 (.tmp 4) (.tmp 68) rfl w.heap.size 0 #[.bool true,.bool false,.bool false,zi (t.id:Int),zi (t.level:Int),zi 2,zu (t.begin_:Int),zu (t.end_:Int),zi (t.ops:Int)] rfl rfl HTH.out (by kernel_rfl) (by simp[Value.oneCell']) ?_;generalize hws:World.setCells _ _ _ _=ws);have hbut:Below w.heap.size w ((w6.setCell ⟨w5.heap.size,5,none⟩ (zi 2)).setCells w.heap.size 0 [.bool true,.bool false,.bool false,zi (t.id:Int),zi (t.level:Int),zi 2,zu (t.begin_:Int),zu (t.end_:Int),zi (t.ops:Int)]):=HBL.out;have hfin:=HFN.out;rw[show (w6.setCell ⟨w5.heap.size,5,none⟩ (zi 2)).setCells w.heap.size 0 [.bool true,.bool false,.bool false,zi (t.id:Int),zi (t.level:Int),zi 2,zu (t.begin_:Int),zu (t.end_:Int),zi (t.ops:Int)]=ws from hws] at hbut hfin
 (try simp only[Exit.inBlock,Exit.then])
 refine bodyPost_ret (results_cell_row rfl _ _ w.heap.size 40 #[.bool true,.bool false,.bool false,zi (t.id:Int),zi (t.level:Int),zi 2,zu (t.begin_:Int),zu (t.end_:Int),zi (t.ops:Int)] _ _ rfl hfin Tryz.underlying40 rfl (by kernel_rfl)) rfl ?_;exact⟨rfl,hbut⟩
theorem status_11 (hL:Live A σ w) (s:Nat) (hs:s<8) (t:Txn) (ht:σ.txns.getD s none=some t) (he:0<t.end_) (c:Cal) (hc:σ.calls.getD s none=some c):
 Calls Tryz.prog 9 #[.pointer (some ⟨A.be,0,none⟩),zi (s:Int)] w fun e w'=>e=.returned (.agg #[.bool true,.bool true,.bool c.waits,zi (t.id:Int),zi (t.level:Int),zi 2,zu (t.begin_:Int),zu (t.end_:Int),zi (t.ops:Int)])∧Below w.heap.size w w':=by
 have hR:=hL.rep;have b1:(s:Int)<8:=by omega
 have b0:(0:Int)≤(s:Int):=by omega
 have hsok:=zH (sessionOk s hs);have r1:=hR.alloc (.cells #[.bool false,.bool false,.bool false,zi 0,zi 0,zi 0,zu 0,zu 0,zi 0] 40);have H1:Hid (∀ w',Below (w.alloc (.cells #[.bool false,.bool false,.bool false,zi 0,zi 0,zi 0,zu 0,zu 0,zi 0] 40)).heap.size (w.alloc (.cells #[.bool false,.bool false,.bool false,zi 0,zi 0,zi 0,zu 0,zu 0,zi 0] 40)) w'→w'.cell? ⟨A.be,5+s,none⟩=some (.pointer (some ⟨A.bt s,0,none⟩))∧w'.cell? ⟨A.be,13+s,none⟩=some (.pointer (some ⟨A.bc s,0,none⟩))∧w'.cell? ⟨A.bt s,0,none⟩=some (zi (t.id:Int))∧w'.cell? ⟨A.bt s,1,none⟩=some (zi (t.level:Int))∧w'.cell? ⟨A.bt s,3,none⟩=some (zu (t.begin_:Int))∧w'.cell? ⟨A.bt s,4,none⟩=some (zu (t.end_:Int))∧w'.cell? ⟨A.bt s,5,none⟩=some (zi (t.ops:Int))∧w'.cell? ⟨A.bc s,10,none⟩=some (.bool c.waits)):=by
  intro w' hb;have r:=r1.below hb;have h5:=r.eng (5+s) (engCs_txn A σ hs);rw[show A.tp σ s=.pointer (some ⟨A.bt s,0,none⟩) by unfold Book.tp;rw[ht]] at h5;have h13:=r.eng (13+s) (engCs_call A σ hs);rw[(hL.call s hs c hc).1,show ptr (A.bc s)=.pointer (some ⟨A.bc s,0,none⟩) from rfl] at h13;exact⟨h5,h13,r.txn ht 0 rfl,r.txn ht 1 rfl,r.txn ht 3 rfl,r.txn ht 4 rfl,r.txn ht 5 rfl,r.call hc 10 rfl⟩
 obtain⟨v5,v13,t0,t1,t3,t4,t5,c10⟩:=H1.out _ (Below.refl _ _);obtain⟨fe1,fe2,fe3,fe4,fe5⟩:=zeF (x:=t.end_) (c:=0) (ci:=0) (by omega);have ff1:decide ((0:Int)<(t.end_:Int))=true:=by simp<;>omega
 have ff2:((0:Int)<(t.end_:Int))=True:=by simp<;>omega
 have ff3:(0<t.end_)=True:=by simp<;>omega
 have ff4:decide (0<t.end_)=true:=by simp<;>omega
 clear hL hR hs ht r1 he;go_enter Tryz.func9,Tryz.ntmps9;go_wp2_with (go_at_call 33;refine (hsok.out _).mono ?_;rintro e w' ⟨rfl,rfl⟩);have HZ0:Hid ((w.alloc (.cells #[.bool false,.bool false,.bool false,zi 0,zi 0,zi 0,zu 0,zu 0,zi 0] 40)).heap[w.heap.size]? =some (.cells #[.bool false,.bool false,.bool false,zi 0,zi 0,zi 0,zu 0,zu 0,zi 0] 40)∧Below w.heap.size w (w.alloc (.cells #[.bool false,.bool false,.bool false,zi 0,zi 0,zi 0,zu 0,zu 0,zi 0] 40))∧w.heap.size<(w.alloc (.cells #[.bool false,.bool false,.bool false,zi 0,zi 0,zi 0,zu 0,zu 0,zi 0] 40)).heap.size):=⟨heap_alloc_new w _,(Below.refl _ w).alloc (Nat.le_refl _) _,by simp⟩
 clear v5 v13 t0 t1 t3 t4 t5 c10;generalize hw0:w.alloc _=w0 at*;obtain⟨v5,v13,t0,t1,t3,t4,t5,c10⟩:=H1.out w0 (Below.refl _ _)
 go_quiet (fail)
 clear v5 v13 t0 t1 t3 t4 t5 c10;generalize hw5:w0.drewN _=w5;have hb5:Below w0.heap.size w0 w5:=by rw[←hw5];exact⟨rfl,rfl,rfl,Nat.le_refl _,fun _ _=>rfl⟩
 obtain⟨v5,v13,t0,t1,t3,t4,t5,c10⟩:=H1.out w5 hb5;obtain⟨_,_,y0,y1,y3,y4,y5,y10⟩:=H1.out (w5.alloc (.cells #[.bool false,.bool false,.bool false,zi 0,zi 0,zi 0,zu 0,zu 0,zi 0] 40)) (hb5.alloc hb5.size _);go_wp2_with fail
 go_region
 generalize hw6:World.drew _=w6;have F6:Fix (fun _=>none) w6 w5.heap.size (.cells #[.bool true,.bool false,.bool false,zi (t.id:Int),zi (t.level:Int),zi 1,zu (t.begin_:Int),zu (t.end_:Int),zi (t.ops:Int)] 40):=⟨rfl,by rw[←hw6];exact heap_alloc_new w5 _⟩
 have hb6:Below w0.heap.size w0 w6:=by rw[←hw6];exact (hb5.alloc hb5.size _).drew
 have hz6:w5.heap.size<w6.heap.size:=lt_of F6.2;have HB6:=zH (zA hb6 (zA F6 hb5.size));obtain⟨_,_,_,_,_,u4,_,_⟩:=H1.out w6 hb6;clear v5 v13 t0 t1 t3 t4 t5 y0 y1 y3 y4 y5 c10 y10;have s0:=F6.cell 0 (v:=.bool true) rfl;have s1:=F6.cell 1 (v:=.bool false) rfl;have s2:=F6.cell 2 (v:=.bool false) rfl;have s3:=F6.cell 3 (v:=zi (t.id:Int)) rfl;have s4:=F6.cell 4 (v:=zi (t.level:Int)) rfl;have s5:=F6.cell 5 (v:=zi 1) rfl;have s6:=F6.cell 6 (v:=zu (t.begin_:Int)) rfl;have s7:=F6.cell 7 (v:=zu (t.end_:Int)) rfl;have s8:=F6.cell 8 (v:=zi (t.ops:Int)) rfl;have z5:=F6.frozen 5;have f7:Fix (fun _=>none) (w6.setCell ⟨w5.heap.size,5,none⟩ (zi 2)) w5.heap.size (.cells #[.bool true,.bool false,.bool false,zi (t.id:Int),zi (t.level:Int),zi 2,zu (t.begin_:Int),zu (t.end_:Int),zi (t.ops:Int)] 40):=⟨rfl,by have h:=heap_setCell_same F6.2 5 (zi 2);simpa using h⟩
 have hb7:Below w0.heap.size w0 (w6.setCell ⟨w5.heap.size,5,none⟩ (zi 2)):=hb6.setCell (HB6.out.2.2) _;obtain⟨_,_,_,_,_,_,_,c10⟩:=H1.out (w6.setCell ⟨w5.heap.size,5,none⟩ (zi 2)) hb7;have q0:=f7.cell 0 (v:=.bool true) rfl;have q1:=f7.cell 1 (v:=.bool false) rfl;have q2:=f7.cell 2 (v:=.bool false) rfl;have q3:=f7.cell 3 (v:=zi (t.id:Int)) rfl;have q4:=f7.cell 4 (v:=zi (t.level:Int)) rfl;have q5:=f7.cell 5 (v:=zi 2) rfl;have q6:=f7.cell 6 (v:=zu (t.begin_:Int)) rfl;have q7:=f7.cell 7 (v:=zu (t.end_:Int)) rfl;have q8:=f7.cell 8 (v:=zi (t.ops:Int)) rfl;have q1z:=f7.frozen 1;have q2z:=f7.frozen 2;have H7:=zH (zA f7 hb7);clear F6 hb6 f7 hb7 hw6;go_wp2_with fail;generalize hw7:World.setCell w6 _ _=w7 at*;clear s0 s1 s2 s3 s4 s5 s6 s7 s8 z5
 go_region
 generalize hw8:World.drew _=w8;have f8:Fix (fun _=>none) w8 w5.heap.size (.cells #[.bool true,.bool true,.bool c.waits,zi (t.id:Int),zi (t.level:Int),zi 2,zu (t.begin_:Int),zu (t.end_:Int),zi (t.ops:Int)] 40):=⟨rfl,by rw[←hw8];have h:=heap_setCell_same (heap_setCell_same H7.out.1.2 1 (.bool true)) 2 (.bool c.waits);show ((w7.setCell ⟨_,1,none⟩ _).setCell ⟨_,2,none⟩ _).heap[_]? =_;simpa using h⟩
 have hb8:Below w0.heap.size w0 w8:=by rw[←hw8];exact ((H7.out.2.setCell HB6.out.2.2 _).setCell HB6.out.2.2 _).drew
 clear q0 q1 q2 q3 q4 q5 q6 q7 q8 q1z q2z c10;have r0:=f8.cell 0 (v:=.bool true) rfl;have r1:=f8.cell 1 (v:=.bool true) rfl;have r2:=f8.cell 2 (v:=.bool c.waits) rfl;have r3:=f8.cell 3 (v:=zi (t.id:Int)) rfl;have r4:=f8.cell 4 (v:=zi (t.level:Int)) rfl;have r5:=f8.cell 5 (v:=zi 2) rfl;have r6:=f8.cell 6 (v:=zu (t.begin_:Int)) rfl;have r7:=f8.cell 7 (v:=zu (t.end_:Int)) rfl;have r8:=f8.cell 8 (v:=zi (t.ops:Int)) rfl;have HTH:=zH (there_of (hb8.block w.heap.size HZ0.out.2.2 |>.trans HZ0.out.1));have hfin:=heap_setCells9 (hb8.block w.heap.size HZ0.out.2.2 |>.trans HZ0.out.1) (.bool true) (.bool true) (.bool c.waits) (zi (t.id:Int)) (zi (t.level:Int)) (zi 2) (zu (t.begin_:Int)) (zu (t.end_:Int)) (zi (t.ops:Int));have HFN:=zH hfin;have HBL:=zH (Below.setCells9 (HZ0.out.2.1.trans (hb8.mono (Nat.le_of_lt HZ0.out.2.2))) (Nat.le_refl _) (.bool true) (.bool true) (.bool c.waits) (zi (t.id:Int)) (zi (t.level:Int)) (zi 2) (zu (t.begin_:Int)) (zu (t.end_:Int)) (zi (t.ops:Int)));clear hfin;clear hb8 hw8 f8;go_wp2_with (refine wpList_store_mid rfl 40 (.tmp 4) (.tmp 68) rfl w.heap.size 0 #[.bool true,.bool true,.bool c.waits,zi (t.id:Int),zi (t.level:Int),zi 2,zu (t.begin_:Int),zu (t.end_:Int),zi (t.ops:Int)] rfl rfl HTH.out (by kernel_rfl) (by simp[Value.oneCell']) ?_;generalize hws:World.setCells _ _ _ _=ws);have hbut:Below w.heap.size w (w8.setCells w.heap.size 0 [.bool true,.bool true,.bool c.waits,zi (t.id:Int),zi (t.level:Int),zi 2,zu (t.begin_:Int),zu (t.end_:Int),zi (t.ops:Int)]):=HBL.out;have hfin:=HFN.out;rw[show w8.setCells w.heap.size 0 [.bool true,.bool true,.bool c.waits,zi (t.id:Int),zi (t.level:Int),zi 2,zu (t.begin_:Int),zu (t.end_:Int),zi (t.ops:Int)]=ws from hws] at hbut hfin
 (try simp only[Exit.inBlock,Exit.then])
 refine bodyPost_ret (results_cell_row rfl _ _ w.heap.size 40 #[.bool true,.bool true,.bool c.waits,zi (t.id:Int),zi (t.level:Int),zi 2,zu (t.begin_:Int),zu (t.end_:Int),zi (t.ops:Int)] _ _ rfl hfin Tryz.underlying40 rfl (by kernel_rfl)) rfl ?_;exact⟨rfl,hbut⟩
end Go.Proofs.YtmgghljjjpcgkaaGreat.Em
