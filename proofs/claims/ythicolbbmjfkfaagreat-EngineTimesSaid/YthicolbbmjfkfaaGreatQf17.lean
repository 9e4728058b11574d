import Derived.Test.YthicolbbmjfkfaaGreatQf15
set_option linter.unusedVariables false
set_option linter.unusedSimpArgs false
set_option maxRecDepth 100000
set_option maxHeartbeats 1600000
namespace Go.Proofs.YthicolbbmjfkfaaGreat.Em
open Go.ChangeShapes Go.WideShapes Go.ChangeAt Go.RowKit En
section
variable {L L':eH} {w E:World}
theorem lC.soft {v:Value} {xs:List Value} (f:lC L w v xs) (h:kF L w L' E):lC L' E v xs:=by
 refine⟨f.1.soft h,fun g off n cap hv=>?_⟩
 rcases f.2 g off n cap hv with h0|⟨cs,hc⟩
 . exact .inl h0
 . by_cases hn:n=0
   . exact .inl hn
   . obtain⟨ad,n',cap',e1,e2,e3,e4,e5⟩:=f.1
     obtain⟨rfl,rfl,rfl⟩:ad=za g off∧n'=n∧cap'=cap:=by rw[hv] at e1;simp at e1;exact⟨e1.1.symm,e1.2.1.symm,e1.2.2.symm⟩
     obtain⟨g',off',e6,e7,e8,_⟩:=e5.resolve_left hn;obtain⟨rfl,rfl⟩:g=g'∧off=off':=by simpa using e6
     exact .inr ⟨cs,(h.block g e8 e7).trans hc⟩
theorem qU.soft (h:kF L w L' E):∀ {l:List Ev} {xs:List Value},qU L w l xs->qU L' E l xs
 |[],_,f=>f
 |_::_,_,⟨vp,ys,h1,h2,h3⟩=>⟨vp,ys,h1,h2.soft h,qU.soft h h3⟩
structure Fz (L:eH) (w:World) (L':eH) (E:World) (ob:Option Nat):Prop where
 os:E.os=w.os
 tape:E.tape=w.tape
 output:E.output=w.output
 size:w.heap.size<=E.heap.size
 block:∀ k,k<w.heap.size->some k≠ob->E.heap[k]? =w.heap[k]?
 lab:∀ k,k<w.heap.size->L' k=L k
 fresh:∀ k,E.heap.size<=k->L' k=none
 tmp:∀ b,ob=some b->L b=some .tmp
theorem Fz.soft {ob:Option Nat} (h:Fz L w L' E ob):kF L w L' E:=⟨h.size,fun b Z e=>h.block b Z (by intro hh;rw[h.tmp b hh.symm] at e;cases e),fun b Z e=>(h.lab b Z).trans e⟩
end
theorem OC (A:az) (L:eH) (D:St) (q:bW):bB {A with L:=L} D q=bB A D q:=by cases q<;>rfl
theorem aF.Bf {A:az} {D:St} {w E:World} {L':eH} {ob:Option Nat} (hR:aF A D w) (h:Fz A.L w L' E ob):aF {A with L:=L'} D E:=by
 refine⟨⟨fun r=>?_,h.fresh⟩,hR.ev.soft h.soft,hR.sl,hR.nw,hR.nt,hR.nv,hR.n8,hR.nc⟩;rw[OC]
 by_cases hr:r=.tmp
 . subst hr;trivial
 . refine (hR.mem.all r).frame (fun k Y hk'=>h.block k Y ?_) h.lab
   intro hh;rw[h.tmp k hh.symm] at hk';exact hr (zj hk').symm
theorem Live.Bf {A:az} {D:St} {w E:World} {L':eH} {ob:Option Nat} (hL:Live A D w) (h:Fz A.L w L' E ob):Live {A with L:=L'} D E:=
 ⟨hL.rep.Bf h,hL.mp,hL.mt,fun s hs c hc=>let ⟨e1,k,e2,e3⟩:=hL.call s hs c hc;⟨e1,k,e2,(show nY (kp A D s) L' E (A.bE s) k from e3.soft h.soft)⟩,hL.idle,hL.sx.soft rfl h.soft⟩
theorem Grow.Bf {L0 L L':eH} {w0 w E:World} {ob:Option Nat} (g:Grow L0 w0 L w) (h:Fz L w L' E ob) (Z:∀ b,ob=some b->w0.heap.size<=b):Grow L0 w0 L' E:=
 have hne:∀ k,k<w0.heap.size->some k≠ob:=fun k Y hh=>by have:=Z k hh.symm;omega
 ⟨h.os.trans g.os,h.tape.trans g.tape,h.output.trans g.output,fq g.size h.size,fun k Y hl=>(h.block k (yI Y g.size) (hne k Y)).trans (g.block k Y hl),fun k Y=>(h.lab k (yI Y g.size)).trans (g.lab k Y),fun k Y hl=>(h.block k (yI Y g.size) (hne k Y)).trans (g.keep k Y hl)⟩
def wQ (L:eH) (v:Value):Prop:=∀ b,v.ownBlock=some b->L b=some .tmp
theorem rF {A:az} {D:St} {w E:World} {v v':Value} {base:Nat} {e:TypeId} {size n:Nat} {xs:List Value} (hL:Live A D w) (hv:wQ A.L v) (aY:E.ownsRow base e size v' n xs) (hg:w.grownBy E v.ownBlock) (h3:v'.ownBlock=v.ownBlock∨∀ g,v'.ownBlock=some g->w.heap.size<=g):
 ∃ L',Fz A.L w L' E v.ownBlock∧wQ L' v':=by
 have hf:∀ k,E.heap.size<=k->A.L k=none:=fun k Y=>hL.rep.mem.fresh k (fq hg.size Y)
 by_cases hs:v'.ownBlock=v.ownBlock
 . exact⟨A.L,⟨hg.os,hg.tape,hg.output,hg.size,hg.block,fun _ _=>rfl,hf,hv⟩,fun b Z=>hv b (hs.symm.trans Z)⟩
 . cases Z:v'.ownBlock with
   |none=>exact⟨A.L,⟨hg.os,hg.tape,hg.output,hg.size,hg.block,fun _ _=>rfl,hf,hv⟩,fun b hb'=>by rw[Z] at hb';cases hb'⟩
   |some g=>
    have hge:=(h3.resolve_left hs) g Z;have hlt:=(aY.lt g Z).2;refine⟨jy A.L g .tmp,⟨hg.os,hg.tape,hg.output,hg.size,hg.block,fun k Y=>eO (by omega),fun k Y=>?_,hv⟩,fun b hb'=>?_⟩
    . rw[eO (by omega)];exact hf k Y
    . obtain rfl:g=b:=zj (Z.symm.trans hb')
      exact kG _ _ _
theorem Grow.soft {L L':eH} {w E:World} (g:Grow L w L' E):kF L w L' E:=⟨g.size,g.block,fun b Z e=>(g.lab b Z).trans e⟩
variable {A:az} {D:St} {w:World}
theorem kT {w:World} {b:Nat} {a0 a1 a2 a3 a4 a5 a6 a7 a8:Value} {T:TypeId} (h:w.heap[b]? =some (.cells #[a0,a1,a2,a3,a4,a5,a6,a7,a8] T)) (v0 v1 v2 v3 v4 v5 v6 v7 v8:Value):(w.setCells b 0 [v0,v1,v2,v3,v4,v5,v6,v7,v8]).heap[b]? =some (.cells #[v0,v1,v2,v3,v4,v5,v6,v7,v8] T):=by
 have h0:=heap_setCell_same h 0 v0;have h1:=heap_setCell_same h0 1 v1;have h2:=heap_setCell_same h1 2 v2;have h3:=heap_setCell_same h2 3 v3;have h4:=heap_setCell_same h3 4 v4;have h5:=heap_setCell_same h4 5 v5;have h6:=heap_setCell_same h5 6 v6;have h7:=heap_setCell_same h6 7 v7;have h8:=heap_setCell_same h7 8 v8
 simpa [World.setCells] using h8
theorem Below.qJ {B b:Nat} {a w:World} (h:Below B a w) (Z:B<=b) (v0 v1 v2 v3 v4 v5 v6 v7 v8:Value):Below B a (w.setCells b 0 [v0,v1,v2,v3,v4,v5,v6,v7,v8]):=
 ((((((((h.setCell (p:=(J b 0)) Z v0).setCell (p:=(J b 1)) Z v1).setCell (p:=(J b 2)) Z v2).setCell (p:=(J b 3)) Z v3).setCell (p:=(J b 4)) Z v4).setCell (p:=(J b 5)) Z v5).setCell (p:=(J b 6)) Z v6).setCell (p:=(J b 7)) Z v7).setCell (p:=(J b 8)) Z v8
def dF (x:Status):Array Value:=#[.bool x.live,.bool x.busy,.bool x.waits,I x.id,I x.ax,I x.state,zu x.aJ,zu x.ay,I x.ops]
theorem Dw (hR:aF A D w) (s:Nat) (hs:s<8) (ht:D.ai.getD s none=none):
 zk 10 #[R A.V 0,I s] w fun e E=>e=.returned (.agg #[.bool false,.bool false,.bool false,I 0,I 0,I 0,zu 0,zu 0,I 0])∧Below w.heap.size w E:=by
 have b1:(s:Int)<8:=by omega
 have b0:(0:Int)<=(s:Int):=by omega
 have gG:=U (fQ s hs);have r1:=hR.alloc (.cells #[.bool false,.bool false,.bool false,I 0,I 0,I 0,zu 0,zu 0,I 0] 42);have v5:=r1.bT (5+s) (dQ A D hs);rw[show A.tp D s=.pointer none by unfold az.tp;rw[ht]] at v5;clear hR hs ht r1;go_enter Tryz.func10,Tryz.ntmps10;go_wp2_with (go_at_call 40;refine (gG.out _).mono ?_;rintro e E ⟨rfl,rfl⟩)
 (try simp only[Exit.inBlock,Exit.then])
 refine bodyPost_ret (results_cell_row rfl _ _ w.heap.size 42 #[.bool false,.bool false,.bool false,I 0,I 0,I 0,zu 0,zu 0,I 0] _ _ rfl (heap_alloc_new w _) Tryz.underlying42 rfl (by kernel_rfl)) rfl ?_;exact⟨rfl,(Below.refl _ w).alloc (zr _) _⟩
theorem I1 (hL:Live A D w) (s:Nat) (hs:s<8) (t:bL) (ht:D.ai.getD s none=some t) (he:t.ay=0) (hc:D.calls.getD s none=none):
 zk 10 #[R A.V 0,I s] w fun e E=>e=.returned (.agg #[.bool true,.bool false,.bool false,I t.id,I t.ax,I 1,zu t.aJ,zu t.ay,I t.ops])∧Below w.heap.size w E:=by
 have hR:=hL.rep;have b1:(s:Int)<8:=by omega
 have b0:(0:Int)<=(s:Int):=by omega
 have gG:=U (fQ s hs);have r1:=hR.alloc (.cells #[.bool false,.bool false,.bool false,I 0,I 0,I 0,zu 0,zu 0,I 0] 42);have H1:Hid (∀ E,Below (w.alloc (.cells #[.bool false,.bool false,.bool false,I 0,I 0,I 0,zu 0,zu 0,I 0] 42)).heap.size (w.alloc (.cells #[.bool false,.bool false,.bool false,I 0,I 0,I 0,zu 0,zu 0,I 0] 42)) E->zS E A.V (5+s) (A.bt s) 0∧E.cell? (J A.V (13+s))=some (.pointer none)∧zT E (A.bt s) 0 t.id∧zT E (A.bt s) 1 t.ax∧zV E (A.bt s) 3 t.aJ∧zV E (A.bt s) 4 t.ay∧zT E (A.bt s) 5 t.ops):=by
  intro E Z;have r:=r1.below Z;have h5:=r.bT (5+s) (dQ A D hs);rw[show A.tp D s=R (A.bt s) 0 by unfold az.tp;rw[ht]] at h5;have KL:=r.bT (13+s) (ed A D hs);rw[hL.idle s hs hc] at KL;exact⟨h5,KL,r.fI ht 0 rfl,r.fI ht 1 rfl,r.fI ht 3 rfl,r.fI ht 4 rfl,r.fI ht 5 rfl⟩
 obtain⟨v5,v13,t0,t1,t3,t4,t5⟩:=H1.out _ (Below.refl _ _);obtain⟨Oi,Oj,Ol,Om,Oo⟩:=rT (x:=t.ay) (c:=0) (ci:=0) (by omega);have VO:decide ((0:Int)<(t.ay:Int))=false:=by simp<;>omega
 have VP:((0:Int)<(t.ay:Int))=False:=by simp<;>omega
 have VQ:(0<t.ay)=False:=by simp<;>omega
 have VR:decide (0<t.ay)=false:=by simp<;>omega
 clear hL hR hs ht r1 he;go_enter Tryz.func10,Tryz.ntmps10;go_wp2_with (go_at_call 40;refine (gG.out _).mono ?_;rintro e E ⟨rfl,rfl⟩);have HZ0:Hid ((w.alloc (.cells #[.bool false,.bool false,.bool false,I 0,I 0,I 0,zu 0,zu 0,I 0] 42)).heap[w.heap.size]? =some (.cells #[.bool false,.bool false,.bool false,I 0,I 0,I 0,zu 0,zu 0,I 0] 42)∧Below w.heap.size w (w.alloc (.cells #[.bool false,.bool false,.bool false,I 0,I 0,I 0,zu 0,zu 0,I 0] 42))∧w.heap.size<(w.alloc (.cells #[.bool false,.bool false,.bool false,I 0,I 0,I 0,zu 0,zu 0,I 0] 42)).heap.size):=⟨heap_alloc_new w _,(Below.refl _ w).alloc (zr _) _,by simp⟩
 clear v5 v13 t0 t1 t3 t4 t5;generalize hw0:w.alloc _=w0 at*;obtain⟨v5,v13,t0,t1,t3,t4,t5⟩:=H1.out w0 (Below.refl _ _)
 go_quiet (fail)
 clear v5 v13 t0 t1 t3 t4 t5;generalize jg:w0.drewN _=w5;have hb5:Below w0.heap.size w0 w5:=by rw[<-jg];exact⟨rfl,rfl,rfl,zr _,fun _ _=>rfl⟩
 obtain⟨v5,v13,t0,t1,t3,t4,t5⟩:=H1.out w5 hb5;obtain⟨_,_,y0,y1,y3,y4,y5⟩:=H1.out (w5.alloc (.cells #[.bool false,.bool false,.bool false,I 0,I 0,I 0,zu 0,zu 0,I 0] 42)) (hb5.alloc hb5.size _);go_wp2_with fail
 go_region
 generalize pW:World.drew _=w6;have F6:Fix (fun _=>none) w6 w5.heap.size (.cells #[.bool true,.bool false,.bool false,I t.id,I t.ax,I 1,zu t.aJ,zu t.ay,I t.ops] 42):=⟨rfl,by rw[<-pW];exact heap_alloc_new w5 _⟩
 have hb6:Below w0.heap.size w0 w6:=by rw[<-pW];exact (hb5.alloc hb5.size _).drew
 have VS:w5.heap.size<w6.heap.size:=gH F6.2;have OD:=U (zA hb6 (zA F6 hb5.size));obtain⟨_,_,_,_,_,u4,_⟩:=H1.out w6 hb6;clear v5 v13 t0 t1 t3 t4 t5 y0 y1 y3 y4 y5;have s0:=F6.cell 0 (v:=.bool true) rfl;have s1:=F6.cell 1 (v:=.bool false) rfl;have s2:=F6.cell 2 (v:=.bool false) rfl;have s3:=F6.cell 3 (v:=I t.id) rfl;have s4:=F6.cell 4 (v:=I t.ax) rfl;have s5:=F6.cell 5 (v:=I 1) rfl;have s6:=F6.cell 6 (v:=zu t.aJ) rfl;have s7:=F6.cell 7 (v:=zu t.ay) rfl;have s8:=F6.cell 8 (v:=I t.ops) rfl;have z5:=F6.frozen 5;have f7:Fix (fun _=>none) w6 w5.heap.size (.cells #[.bool true,.bool false,.bool false,I t.id,I t.ax,I 1,zu t.aJ,zu t.ay,I t.ops] 42):=F6;have Dx:Below w0.heap.size w0 w6:=hb6;have wF:Below w0.heap.size w0 w6:=Dx;have CR:=U (kP (wF.block w.heap.size HZ0.out.2.2 |>.trans HZ0.out.1));have hfin:=kT (wF.block w.heap.size HZ0.out.2.2 |>.trans HZ0.out.1) (.bool true) (.bool false) (.bool false) (I t.id) (I t.ax) (I 1) (zu t.aJ) (zu t.ay) (I t.ops);have QV:=U hfin;have JG:=U (Below.qJ (HZ0.out.2.1.trans (wF.mono (Nat.le_of_lt HZ0.out.2.2))) (zr _) (.bool true) (.bool false) (.bool false) (I t.id) (I t.ax) (I 1) (zu t.aJ) (zu t.ay) (I t.ops));clear hfin;clear wF F6 hb6 f7 Dx pW;go_wp2_with (refine wpList_store_mid rfl 42 (.tmp 4) (.tmp 68) rfl w.heap.size 0 #[.bool true,.bool false,.bool false,I t.id,I t.ax,I 1,zu t.aJ,zu t.ay,I t.ops] rfl rfl CR.out (by kernel_rfl) (by simp[Value.oneCell']) ?_;generalize hws:World.setCells _ _ _ _=ws);have dE:Below w.heap.size w (w6.setCells w.heap.size 0 [.bool true,.bool false,.bool false,I t.id,I t.ax,I 1,zu t.aJ,zu t.ay,I t.ops]):=JG.out;have hfin:=QV.out;rw[show w6.setCells w.heap.size 0 [.bool true,.bool false,.bool false,I t.id,I t.ax,I 1,zu t.aJ,zu t.ay,I t.ops]=ws from hws] at dE hfin
 (try simp only[Exit.inBlock,Exit.then])
 refine bodyPost_ret (results_cell_row rfl _ _ w.heap.size 42 #[.bool true,.bool false,.bool false,I t.id,I t.ax,I 1,zu t.aJ,zu t.ay,I t.ops] _ _ rfl hfin Tryz.underlying42 rfl (by kernel_rfl)) rfl ?_;exact⟨rfl,dE⟩
theorem I4 (hL:Live A D w) (s:Nat) (hs:s<8) (t:bL) (ht:D.ai.getD s none=some t) (he:t.ay=0) (c:dY) (hc:D.calls.getD s none=some c):
 zk 10 #[R A.V 0,I s] w fun e E=>e=.returned (.agg #[.bool true,.bool true,.bool c.waits,I t.id,I t.ax,I 1,zu t.aJ,zu t.ay,I t.ops])∧Below w.heap.size w E:=by
 have hR:=hL.rep;have b1:(s:Int)<8:=by omega
 have b0:(0:Int)<=(s:Int):=by omega
 have gG:=U (fQ s hs);have r1:=hR.alloc (.cells #[.bool false,.bool false,.bool false,I 0,I 0,I 0,zu 0,zu 0,I 0] 42);have H1:Hid (∀ E,Below (w.alloc (.cells #[.bool false,.bool false,.bool false,I 0,I 0,I 0,zu 0,zu 0,I 0] 42)).heap.size (w.alloc (.cells #[.bool false,.bool false,.bool false,I 0,I 0,I 0,zu 0,zu 0,I 0] 42)) E->zS E A.V (5+s) (A.bt s) 0∧zS E A.V (13+s) (A.bc s) 0∧zT E (A.bt s) 0 t.id∧zT E (A.bt s) 1 t.ax∧zV E (A.bt s) 3 t.aJ∧zV E (A.bt s) 4 t.ay∧zT E (A.bt s) 5 t.ops∧zB E (A.bc s) 10 c.waits):=by
  intro E Z;have r:=r1.below Z;have h5:=r.bT (5+s) (dQ A D hs);rw[show A.tp D s=R (A.bt s) 0 by unfold az.tp;rw[ht]] at h5;have KL:=r.bT (13+s) (ed A D hs);rw[(hL.call s hs c hc).1,show ptr (A.bc s)=R (A.bc s) 0 from rfl] at KL;exact⟨h5,KL,r.fI ht 0 rfl,r.fI ht 1 rfl,r.fI ht 3 rfl,r.fI ht 4 rfl,r.fI ht 5 rfl,r.call hc 10 rfl⟩
 obtain⟨v5,v13,t0,t1,t3,t4,t5,c10⟩:=H1.out _ (Below.refl _ _);obtain⟨Oi,Oj,Ol,Om,Oo⟩:=rT (x:=t.ay) (c:=0) (ci:=0) (by omega);have VO:decide ((0:Int)<(t.ay:Int))=false:=by simp<;>omega
 have VP:((0:Int)<(t.ay:Int))=False:=by simp<;>omega
 have VQ:(0<t.ay)=False:=by simp<;>omega
 have VR:decide (0<t.ay)=false:=by simp<;>omega
 clear hL hR hs ht r1 he;go_enter Tryz.func10,Tryz.ntmps10;go_wp2_with (go_at_call 40;refine (gG.out _).mono ?_;rintro e E ⟨rfl,rfl⟩);have HZ0:Hid ((w.alloc (.cells #[.bool false,.bool false,.bool false,I 0,I 0,I 0,zu 0,zu 0,I 0] 42)).heap[w.heap.size]? =some (.cells #[.bool false,.bool false,.bool false,I 0,I 0,I 0,zu 0,zu 0,I 0] 42)∧Below w.heap.size w (w.alloc (.cells #[.bool false,.bool false,.bool false,I 0,I 0,I 0,zu 0,zu 0,I 0] 42))∧w.heap.size<(w.alloc (.cells #[.bool false,.bool false,.bool false,I 0,I 0,I 0,zu 0,zu 0,I 0] 42)).heap.size):=⟨heap_alloc_new w _,(Below.refl _ w).alloc (zr _) _,by simp⟩
 clear v5 v13 t0 t1 t3 t4 t5 c10;generalize hw0:w.alloc _=w0 at*;obtain⟨v5,v13,t0,t1,t3,t4,t5,c10⟩:=H1.out w0 (Below.refl _ _)
 go_quiet (fail)
 clear v5 v13 t0 t1 t3 t4 t5 c10;generalize jg:w0.drewN _=w5;have hb5:Below w0.heap.size w0 w5:=by rw[<-jg];exact⟨rfl,rfl,rfl,zr _,fun _ _=>rfl⟩
 obtain⟨v5,v13,t0,t1,t3,t4,t5,c10⟩:=H1.out w5 hb5;obtain⟨_,_,y0,y1,y3,y4,y5,PL⟩:=H1.out (w5.alloc (.cells #[.bool false,.bool false,.bool false,I 0,I 0,I 0,zu 0,zu 0,I 0] 42)) (hb5.alloc hb5.size _);go_wp2_with fail
 go_region
 generalize pW:World.drew _=w6;have F6:Fix (fun _=>none) w6 w5.heap.size (.cells #[.bool true,.bool false,.bool false,I t.id,I t.ax,I 1,zu t.aJ,zu t.ay,I t.ops] 42):=⟨rfl,by rw[<-pW];exact heap_alloc_new w5 _⟩
 have hb6:Below w0.heap.size w0 w6:=by rw[<-pW];exact (hb5.alloc hb5.size _).drew
 have VS:w5.heap.size<w6.heap.size:=gH F6.2;have OD:=U (zA hb6 (zA F6 hb5.size));obtain⟨_,_,_,_,_,u4,_,_⟩:=H1.out w6 hb6;clear v5 v13 t0 t1 t3 t4 t5 y0 y1 y3 y4 y5 c10 PL;have s0:=F6.cell 0 (v:=.bool true) rfl;have s1:=F6.cell 1 (v:=.bool false) rfl;have s2:=F6.cell 2 (v:=.bool false) rfl;have s3:=F6.cell 3 (v:=I t.id) rfl;have s4:=F6.cell 4 (v:=I t.ax) rfl;have s5:=F6.cell 5 (v:=I 1) rfl;have s6:=F6.cell 6 (v:=zu t.aJ) rfl;have s7:=F6.cell 7 (v:=zu t.ay) rfl;have s8:=F6.cell 8 (v:=I t.ops) rfl;have z5:=F6.frozen 5;have f7:Fix (fun _=>none) w6 w5.heap.size (.cells #[.bool true,.bool false,.bool false,I t.id,I t.ax,I 1,zu t.aJ,zu t.ay,I t.ops] 42):=F6;have Dx:Below w0.heap.size w0 w6:=hb6;obtain⟨_,_,_,_,_,_,_,c10⟩:=H1.out w6 Dx;have q0:=f7.cell 0 (v:=.bool true) rfl;have q1:=f7.cell 1 (v:=.bool false) rfl;have q2:=f7.cell 2 (v:=.bool false) rfl;have q3:=f7.cell 3 (v:=I t.id) rfl;have q4:=f7.cell 4 (v:=I t.ax) rfl;have q5:=f7.cell 5 (v:=I 1) rfl;have q6:=f7.cell 6 (v:=zu t.aJ) rfl;have q7:=f7.cell 7 (v:=zu t.ay) rfl;have q8:=f7.cell 8 (v:=I t.ops) rfl;have q1z:=f7.frozen 1;have q2z:=f7.frozen 2;have H7:=U (zA f7 Dx);clear F6 hb6 f7 Dx pW;go_wp2_with fail;generalize hw7:w6=w7 at*;clear s0 s1 s2 s3 s4 s5 s6 s7 s8 z5
 go_region
 generalize hw8:World.drew _=w8;have f8:Fix (fun _=>none) w8 w5.heap.size (.cells #[.bool true,.bool true,.bool c.waits,I t.id,I t.ax,I 1,zu t.aJ,zu t.ay,I t.ops] 42):=⟨rfl,by rw[<-hw8];have h:=heap_setCell_same (heap_setCell_same H7.out.1.2 1 (.bool true)) 2 (.bool c.waits);show ((w7.setCell (J _ 1) _).setCell (J _ 2) _).heap[_]? =_;simpa using h⟩
 have wF:Below w0.heap.size w0 w8:=by rw[<-hw8];exact ((H7.out.2.setCell OD.out.2.2 _).setCell OD.out.2.2 _).drew
 clear q0 q1 q2 q3 q4 q5 q6 q7 q8 q1z q2z c10;have r0:=f8.cell 0 (v:=.bool true) rfl;have r1:=f8.cell 1 (v:=.bool true) rfl;have r2:=f8.cell 2 (v:=.bool c.waits) rfl;have r3:=f8.cell 3 (v:=I t.id) rfl;have r4:=f8.cell 4 (v:=I t.ax) rfl;have r5:=f8.cell 5 (v:=I 1) rfl;have r6:=f8.cell 6 (v:=zu t.aJ) rfl;have r7:=f8.cell 7 (v:=zu t.ay) rfl;have r8:=f8.cell 8 (v:=I t.ops) rfl;have CR:=U (kP (wF.block w.heap.size HZ0.out.2.2 |>.trans HZ0.out.1));have hfin:=kT (wF.block w.heap.size HZ0.out.2.2 |>.trans HZ0.out.1) (.bool true) (.bool true) (.bool c.waits) (I t.id) (I t.ax) (I 1) (zu t.aJ) (zu t.ay) (I t.ops);have QV:=U hfin;have JG:=U (Below.qJ (HZ0.out.2.1.trans (wF.mono (Nat.le_of_lt HZ0.out.2.2))) (zr _) (.bool true) (.bool true) (.bool c.waits) (I t.id) (I t.ax) (I 1) (zu t.aJ) (zu t.ay) (I t.ops));clear hfin;clear wF hw8 f8;go_wp2_with (refine wpList_store_mid rfl 42 (.tmp 4) (.tmp 68) rfl w.heap.size 0 #[.bool true,.bool true,.bool c.waits,I t.id,I t.ax,I 1,zu t.aJ,zu t.ay,I t.ops] rfl rfl CR.out (by kernel_rfl) (by simp[Value.oneCell']) ?_;generalize hws:World.setCells _ _ _ _=ws);have dE:Below w.heap.size w (w8.setCells w.heap.size 0 [.bool true,.bool true,.bool c.waits,I t.id,I t.ax,I 1,zu t.aJ,zu t.ay,I t.ops]):=JG.out;have hfin:=QV.out;rw[show w8.setCells w.heap.size 0 [.bool true,.bool true,.bool c.waits,I t.id,I t.ax,I 1,zu t.aJ,zu t.ay,I t.ops]=ws from hws] at dE hfin
 (try simp only[Exit.inBlock,Exit.then])
 refine bodyPost_ret (results_cell_row rfl _ _ w.heap.size 42 #[.bool true,.bool true,.bool c.waits,I t.id,I t.ax,I 1,zu t.aJ,zu t.ay,I t.ops] _ _ rfl hfin Tryz.underlying42 rfl (by kernel_rfl)) rfl ?_;exact⟨rfl,dE⟩
theorem I5 (hL:Live A D w) (s:Nat) (hs:s<8) (t:bL) (ht:D.ai.getD s none=some t) (he:0<t.ay) (hc:D.calls.getD s none=none):
 zk 10 #[R A.V 0,I s] w fun e E=>e=.returned (.agg #[.bool true,.bool false,.bool false,I t.id,I t.ax,I 2,zu t.aJ,zu t.ay,I t.ops])∧Below w.heap.size w E:=by
 have hR:=hL.rep;have b1:(s:Int)<8:=by omega
 have b0:(0:Int)<=(s:Int):=by omega
 have gG:=U (fQ s hs);have r1:=hR.alloc (.cells #[.bool false,.bool false,.bool false,I 0,I 0,I 0,zu 0,zu 0,I 0] 42);have H1:Hid (∀ E,Below (w.alloc (.cells #[.bool false,.bool false,.bool false,I 0,I 0,I 0,zu 0,zu 0,I 0] 42)).heap.size (w.alloc (.cells #[.bool false,.bool false,.bool false,I 0,I 0,I 0,zu 0,zu 0,I 0] 42)) E->zS E A.V (5+s) (A.bt s) 0∧E.cell? (J A.V (13+s))=some (.pointer none)∧zT E (A.bt s) 0 t.id∧zT E (A.bt s) 1 t.ax∧zV E (A.bt s) 3 t.aJ∧zV E (A.bt s) 4 t.ay∧zT E (A.bt s) 5 t.ops):=by
  intro E Z;have r:=r1.below Z;have h5:=r.bT (5+s) (dQ A D hs);rw[show A.tp D s=R (A.bt s) 0 by unfold az.tp;rw[ht]] at h5;have KL:=r.bT (13+s) (ed A D hs);rw[hL.idle s hs hc] at KL;exact⟨h5,KL,r.fI ht 0 rfl,r.fI ht 1 rfl,r.fI ht 3 rfl,r.fI ht 4 rfl,r.fI ht 5 rfl⟩
 obtain⟨v5,v13,t0,t1,t3,t4,t5⟩:=H1.out _ (Below.refl _ _);obtain⟨Oi,Oj,Ol,Om,Oo⟩:=qE (x:=t.ay) (c:=0) (ci:=0) (by omega);have VO:decide ((0:Int)<(t.ay:Int))=true:=by simp<;>omega
 have VP:((0:Int)<(t.ay:Int))=True:=by simp<;>omega
 have VQ:(0<t.ay)=True:=by simp<;>omega
 have VR:decide (0<t.ay)=true:=by simp<;>omega
 clear hL hR hs ht r1 he;go_enter Tryz.func10,Tryz.ntmps10;go_wp2_with (go_at_call 40;refine (gG.out _).mono ?_;rintro e E ⟨rfl,rfl⟩);have HZ0:Hid ((w.alloc (.cells #[.bool false,.bool false,.bool false,I 0,I 0,I 0,zu 0,zu 0,I 0] 42)).heap[w.heap.size]? =some (.cells #[.bool false,.bool false,.bool false,I 0,I 0,I 0,zu 0,zu 0,I 0] 42)∧Below w.heap.size w (w.alloc (.cells #[.bool false,.bool false,.bool false,I 0,I 0,I 0,zu 0,zu 0,I 0] 42))∧w.heap.size<(w.alloc (.cells #[.bool false,.bool false,.bool false,I 0,I 0,I 0,zu 0,zu 0,I 0] 42)).heap.size):=⟨heap_alloc_new w _,(Below.refl _ w).alloc (zr _) _,by simp⟩
 clear v5 v13 t0 t1 t3 t4 t5;generalize hw0:w.alloc _=w0 at*;obtain⟨v5,v13,t0,t1,t3,t4,t5⟩:=H1.out w0 (Below.refl _ _)
 go_quiet (fail)
 clear v5 v13 t0 t1 t3 t4 t5;generalize jg:w0.drewN _=w5;have hb5:Below w0.heap.size w0 w5:=by rw[<-jg];exact⟨rfl,rfl,rfl,zr _,fun _ _=>rfl⟩
 obtain⟨v5,v13,t0,t1,t3,t4,t5⟩:=H1.out w5 hb5;obtain⟨_,_,y0,y1,y3,y4,y5⟩:=H1.out (w5.alloc (.cells #[.bool false,.bool false,.bool false,I 0,I 0,I 0,zu 0,zu 0,I 0] 42)) (hb5.alloc hb5.size _);go_wp2_with fail
 go_region
 generalize pW:World.drew _=w6;have F6:Fix (fun _=>none) w6 w5.heap.size (.cells #[.bool true,.bool false,.bool false,I t.id,I t.ax,I 1,zu t.aJ,zu t.ay,I t.ops] 42):=⟨rfl,by rw[<-pW];exact heap_alloc_new w5 _⟩
 have hb6:Below w0.heap.size w0 w6:=by rw[<-pW];exact (hb5.alloc hb5.size _).drew
 have VS:w5.heap.size<w6.heap.size:=gH F6.2;have OD:=U (zA hb6 (zA F6 hb5.size));obtain⟨_,_,_,_,_,u4,_⟩:=H1.out w6 hb6;clear v5 v13 t0 t1 t3 t4 t5 y0 y1 y3 y4 y5;have s0:=F6.cell 0 (v:=.bool true) rfl;have s1:=F6.cell 1 (v:=.bool false) rfl;have s2:=F6.cell 2 (v:=.bool false) rfl;have s3:=F6.cell 3 (v:=I t.id) rfl;have s4:=F6.cell 4 (v:=I t.ax) rfl;have s5:=F6.cell 5 (v:=I 1) rfl;have s6:=F6.cell 6 (v:=zu t.aJ) rfl;have s7:=F6.cell 7 (v:=zu t.ay) rfl;have s8:=F6.cell 8 (v:=I t.ops) rfl;have z5:=F6.frozen 5;have f7:Fix (fun _=>none) (w6.setCell (J w5.heap.size 5) (I 2)) w5.heap.size (.cells #[.bool true,.bool false,.bool false,I t.id,I t.ax,I 2,zu t.aJ,zu t.ay,I t.ops] 42):=⟨rfl,by have h:=heap_setCell_same F6.2 5 (I 2);simpa using h⟩
 have Dx:Below w0.heap.size w0 (w6.setCell (J w5.heap.size 5) (I 2)):=hb6.setCell (OD.out.2.2) _;have wF:Below w0.heap.size w0 (w6.setCell (J w5.heap.size 5) (I 2)):=Dx;have CR:=U (kP (wF.block w.heap.size HZ0.out.2.2 |>.trans HZ0.out.1));have hfin:=kT (wF.block w.heap.size HZ0.out.2.2 |>.trans HZ0.out.1) (.bool true) (.bool false) (.bool false) (I t.id) (I t.ax) (I 2) (zu t.aJ) (zu t.ay) (I t.ops);have QV:=U hfin;have JG:=U (Below.qJ (HZ0.out.2.1.trans (wF.mono (Nat.le_of_lt HZ0.out.2.2))) (zr _) (.bool true) (.bool false) (.bool false) (I t.id) (I t.ax) (I 2) (zu t.aJ) (zu t.ay) (I t.ops));clear hfin;clear wF F6 hb6 f7 Dx pW;go_wp2_with (refine wpList_store_mid rfl 42 (.tmp 4) (.tmp 68) rfl w.heap.size 0 #[.bool true,.bool false,.bool false,I t.id,I t.ax,I 2,zu t.aJ,zu t.ay,I t.ops] rfl rfl CR.out (by kernel_rfl) (by simp[Value.oneCell']) ?_;generalize hws:World.setCells _ _ _ _=ws);have dE:Below w.heap.size w ((w6.setCell (J w5.heap.size 5) (I 2)).setCells w.heap.size 0 [.bool true,.bool false,.bool false,I t.id,I t.ax,I 2,zu t.aJ,zu t.ay,I t.ops]):=JG.out;have hfin:=QV.out;rw[show (w6.setCell (J w5.heap.size 5) (I 2)).setCells w.heap.size 0 [.bool true,.bool false,.bool false,I t.id,I t.ax,I 2,zu t.aJ,zu t.ay,I t.ops]=ws from hws] at dE hfin
 (try simp only[Exit.inBlock,Exit.then])
 refine bodyPost_ret (results_cell_row rfl _ _ w.heap.size 42 #[.bool true,.bool false,.bool false,I t.id,I t.ax,I 2,zu t.aJ,zu t.ay,I t.ops] _ _ rfl hfin Tryz.underlying42 rfl (by kernel_rfl)) rfl ?_;exact⟨rfl,dE⟩
theorem I6 (hL:Live A D w) (s:Nat) (hs:s<8) (t:bL) (ht:D.ai.getD s none=some t) (he:0<t.ay) (c:dY) (hc:D.calls.getD s none=some c):
 zk 10 #[R A.V 0,I s] w fun e E=>e=.returned (.agg #[.bool true,.bool true,.bool c.waits,I t.id,I t.ax,I 2,zu t.aJ,zu t.ay,I t.ops])∧Below w.heap.size w E:=by
 have hR:=hL.rep;have b1:(s:Int)<8:=by omega
 have b0:(0:Int)<=(s:Int):=by omega
 have gG:=U (fQ s hs);have r1:=hR.alloc (.cells #[.bool false,.bool false,.bool false,I 0,I 0,I 0,zu 0,zu 0,I 0] 42);have H1:Hid (∀ E,Below (w.alloc (.cells #[.bool false,.bool false,.bool false,I 0,I 0,I 0,zu 0,zu 0,I 0] 42)).heap.size (w.alloc (.cells #[.bool false,.bool false,.bool false,I 0,I 0,I 0,zu 0,zu 0,I 0] 42)) E->zS E A.V (5+s) (A.bt s) 0∧zS E A.V (13+s) (A.bc s) 0∧zT E (A.bt s) 0 t.id∧zT E (A.bt s) 1 t.ax∧zV E (A.bt s) 3 t.aJ∧zV E (A.bt s) 4 t.ay∧zT E (A.bt s) 5 t.ops∧zB E (A.bc s) 10 c.waits):=by
  intro E Z;have r:=r1.below Z;have h5:=r.bT (5+s) (dQ A D hs);rw[show A.tp D s=R (A.bt s) 0 by unfold az.tp;rw[ht]] at h5;have KL:=r.bT (13+s) (ed A D hs);rw[(hL.call s hs c hc).1,show ptr (A.bc s)=R (A.bc s) 0 from rfl] at KL;exact⟨h5,KL,r.fI ht 0 rfl,r.fI ht 1 rfl,r.fI ht 3 rfl,r.fI ht 4 rfl,r.fI ht 5 rfl,r.call hc 10 rfl⟩
 obtain⟨v5,v13,t0,t1,t3,t4,t5,c10⟩:=H1.out _ (Below.refl _ _);obtain⟨Oi,Oj,Ol,Om,Oo⟩:=qE (x:=t.ay) (c:=0) (ci:=0) (by omega);have VO:decide ((0:Int)<(t.ay:Int))=true:=by simp<;>omega
 have VP:((0:Int)<(t.ay:Int))=True:=by simp<;>omega
 have VQ:(0<t.ay)=True:=by simp<;>omega
 have VR:decide (0<t.ay)=true:=by simp<;>omega
 clear hL hR hs ht r1 he;go_enter Tryz.func10,Tryz.ntmps10;go_wp2_with (go_at_call 40;refine (gG.out _).mono ?_;rintro e E ⟨rfl,rfl⟩);have HZ0:Hid ((w.alloc (.cells #[.bool false,.bool false,.bool false,I 0,I 0,I 0,zu 0,zu 0,I 0] 42)).heap[w.heap.size]? =some (.cells #[.bool false,.bool false,.bool false,I 0,I 0,I 0,zu 0,zu 0,I 0] 42)∧Below w.heap.size w (w.alloc (.cells #[.bool false,.bool false,.bool false,I 0,I 0,I 0,zu 0,zu 0,I 0] 42))∧w.heap.size<(w.alloc (.cells #[.bool false,.bool false,.bool false,I 0,I 0,I 0,zu 0,zu 0,I 0] 42)).heap.size):=⟨heap_alloc_new w _,(Below.refl _ w).alloc (zr _) _,by simp⟩
 clear v5 v13 t0 t1 t3 t4 t5 c10;generalize hw0:w.alloc _=w0 at*;obtain⟨v5,v13,t0,t1,t3,t4,t5,c10⟩:=H1.out w0 (Below.refl _ _)
 go_quiet (fail)
 clear v5 v13 t0 t1 t3 t4 t5 c10;generalize jg:w0.drewN _=w5;have hb5:Below w0.heap.size w0 w5:=by rw[<-jg];exact⟨rfl,rfl,rfl,zr _,fun _ _=>rfl⟩
 obtain⟨v5,v13,t0,t1,t3,t4,t5,c10⟩:=H1.out w5 hb5;obtain⟨_,_,y0,y1,y3,y4,y5,PL⟩:=H1.out (w5.alloc (.cells #[.bool false,.bool false,.bool false,I 0,I 0,I 0,zu 0,zu 0,I 0] 42)) (hb5.alloc hb5.size _);go_wp2_with fail
 go_region
 generalize pW:World.drew _=w6;have F6:Fix (fun _=>none) w6 w5.heap.size (.cells #[.bool true,.bool false,.bool false,I t.id,I t.ax,I 1,zu t.aJ,zu t.ay,I t.ops] 42):=⟨rfl,by rw[<-pW];exact heap_alloc_new w5 _⟩
 have hb6:Below w0.heap.size w0 w6:=by rw[<-pW];exact (hb5.alloc hb5.size _).drew
 have VS:w5.heap.size<w6.heap.size:=gH F6.2;have OD:=U (zA hb6 (zA F6 hb5.size));obtain⟨_,_,_,_,_,u4,_,_⟩:=H1.out w6 hb6;clear v5 v13 t0 t1 t3 t4 t5 y0 y1 y3 y4 y5 c10 PL;have s0:=F6.cell 0 (v:=.bool true) rfl;have s1:=F6.cell 1 (v:=.bool false) rfl;have s2:=F6.cell 2 (v:=.bool false) rfl;have s3:=F6.cell 3 (v:=I t.id) rfl;have s4:=F6.cell 4 (v:=I t.ax) rfl;have s5:=F6.cell 5 (v:=I 1) rfl;have s6:=F6.cell 6 (v:=zu t.aJ) rfl;have s7:=F6.cell 7 (v:=zu t.ay) rfl;have s8:=F6.cell 8 (v:=I t.ops) rfl;have z5:=F6.frozen 5;have f7:Fix (fun _=>none) (w6.setCell (J w5.heap.size 5) (I 2)) w5.heap.size (.cells #[.bool true,.bool false,.bool false,I t.id,I t.ax,I 2,zu t.aJ,zu t.ay,I t.ops] 42):=⟨rfl,by have h:=heap_setCell_same F6.2 5 (I 2);simpa using h⟩
 have Dx:Below w0.heap.size w0 (w6.setCell (J w5.heap.size 5) (I 2)):=hb6.setCell (OD.out.2.2) _;obtain⟨_,_,_,_,_,_,_,c10⟩:=H1.out (w6.setCell (J w5.heap.size 5) (I 2)) Dx;have q0:=f7.cell 0 (v:=.bool true) rfl;have q1:=f7.cell 1 (v:=.bool false) rfl;have q2:=f7.cell 2 (v:=.bool false) rfl;have q3:=f7.cell 3 (v:=I t.id) rfl;have q4:=f7.cell 4 (v:=I t.ax) rfl;have q5:=f7.cell 5 (v:=I 2) rfl;have q6:=f7.cell 6 (v:=zu t.aJ) rfl;have q7:=f7.cell 7 (v:=zu t.ay) rfl;have q8:=f7.cell 8 (v:=I t.ops) rfl;have q1z:=f7.frozen 1;have q2z:=f7.frozen 2;have H7:=U (zA f7 Dx);clear F6 hb6 f7 Dx pW;go_wp2_with fail;generalize hw7:World.setCell w6 _ _=w7 at*;clear s0 s1 s2 s3 s4 s5 s6 s7 s8 z5
 go_region
 generalize hw8:World.drew _=w8;have f8:Fix (fun _=>none) w8 w5.heap.size (.cells #[.bool true,.bool true,.bool c.waits,I t.id,I t.ax,I 2,zu t.aJ,zu t.ay,I t.ops] 42):=⟨rfl,by rw[<-hw8];have h:=heap_setCell_same (heap_setCell_same H7.out.1.2 1 (.bool true)) 2 (.bool c.waits);show ((w7.setCell (J _ 1) _).setCell (J _ 2) _).heap[_]? =_;simpa using h⟩
 have wF:Below w0.heap.size w0 w8:=by rw[<-hw8];exact ((H7.out.2.setCell OD.out.2.2 _).setCell OD.out.2.2 _).drew
 clear q0 q1 q2 q3 q4 q5 q6 q7 q8 q1z q2z c10;have r0:=f8.cell 0 (v:=.bool true) rfl;have r1:=f8.cell 1 (v:=.bool true) rfl;have r2:=f8.cell 2 (v:=.bool c.waits) rfl;have r3:=f8.cell 3 (v:=I t.id) rfl;have r4:=f8.cell 4 (v:=I t.ax) rfl;have r5:=f8.cell 5 (v:=I 2) rfl;have r6:=f8.cell 6 (v:=zu t.aJ) rfl;have r7:=f8.cell 7 (v:=zu t.ay) rfl;have r8:=f8.cell 8 (v:=I t.ops) rfl;have CR:=U (kP (wF.block w.heap.size HZ0.out.2.2 |>.trans HZ0.out.1));have hfin:=kT (wF.block w.heap.size HZ0.out.2.2 |>.trans HZ0.out.1) (.bool true) (.bool true) (.bool c.waits) (I t.id) (I t.ax) (I 2) (zu t.aJ) (zu t.ay) (I t.ops);have QV:=U hfin;have JG:=U (Below.qJ (HZ0.out.2.1.trans (wF.mono (Nat.le_of_lt HZ0.out.2.2))) (zr _) (.bool true) (.bool true) (.bool c.waits) (I t.id) (I t.ax) (I 2) (zu t.aJ) (zu t.ay) (I t.ops));clear hfin;clear wF hw8 f8;go_wp2_with (refine wpList_store_mid rfl 42 (.tmp 4) (.tmp 68) rfl w.heap.size 0 #[.bool true,.bool true,.bool c.waits,I t.id,I t.ax,I 2,zu t.aJ,zu t.ay,I t.ops] rfl rfl CR.out (by kernel_rfl) (by simp[Value.oneCell']) ?_;generalize hws:World.setCells _ _ _ _=ws);have dE:Below w.heap.size w (w8.setCells w.heap.size 0 [.bool true,.bool true,.bool c.waits,I t.id,I t.ax,I 2,zu t.aJ,zu t.ay,I t.ops]):=JG.out;have hfin:=QV.out;rw[show w8.setCells w.heap.size 0 [.bool true,.bool true,.bool c.waits,I t.id,I t.ax,I 2,zu t.aJ,zu t.ay,I t.ops]=ws from hws] at dE hfin
 (try simp only[Exit.inBlock,Exit.then])
 refine bodyPost_ret (results_cell_row rfl _ _ w.heap.size 42 #[.bool true,.bool true,.bool c.waits,I t.id,I t.ax,I 2,zu t.aJ,zu t.ay,I t.ops] _ _ rfl hfin Tryz.underlying42 rfl (by kernel_rfl)) rfl ?_;exact⟨rfl,dE⟩
end Go.Proofs.YthicolbbmjfkfaaGreat.Em
