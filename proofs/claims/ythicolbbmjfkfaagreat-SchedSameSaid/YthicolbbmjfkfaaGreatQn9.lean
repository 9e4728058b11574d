import Derived.Test.YthicolbbmjfkfaaGreatQn6
import Derived.Test.YthicolbbmjfkfaaGreatQn5
import Derived.Defers
set_option linter.unusedVariables false
set_option linter.unusedSimpArgs false
set_option maxRecDepth 100000
set_option maxHeartbeats 1600000
namespace Go.Proofs.YthicolbbmjfkfaaGreat.Em
open Go.ChangeShapes Go.WideShapes Go.ChangeAt Go.RowKit En
variable {A:au} {D:St} {w:World}
theorem Dt (hR:aC A D w) (s:Nat) (t:bL) (ht:D.aj.getD s none=some t) (c:dN) (hc:D.calls.getD s none=some c) (hx:t.cell c.op.F=none):
 zk 98 #[R A.H 0,R (A.bt s) 0,R (A.bc s) 0] w (bE A w s (D,.start ⟨c.op.F,t.aJ,.change⟩)):=by
 obtain⟨r3,g3,_,_,_⟩:=je hR #[R A.H 0] 32 #[R (A.bt s) 0] 100 #[R (A.bc s) 0] 105;have k1:=r3.call hc 1 (v:=I c.op.F) rfl;obtain⟨r4,g4,f0,f1,f2,f3⟩:=jA hR #[R A.H 0] 32 #[R (A.bt s) 0] 100 #[R (A.bc s) 0] 105 #[I c.op.F] 3;have a0:=f0.cell 0 (v:=R A.H 0) rfl;have a1:=f1.cell 0 (v:=R (A.bt s) 0) rfl;have a2:=f2.cell 0 (v:=R (A.bc s) 0) rfl;have a3:=f3.cell 0 (v:=I c.op.F) rfl;have a7:=r4.fw ht 7 (v:=.map (some (A.bm s))) rfl;have ab:=r4.fw ht 3 (v:=zu t.aJ) rfl;have hlk:=fun n=>fZ (r4.drewN n) ht c.op.F
 have hpx:A.px s t c.op.F=.pointer none:=by unfold au.px;rw[hx];rfl
 rw[hpx] at hlk;have gd:=fun n=>(Grow.drewN A.L ((((w.alloc (.cells #[R A.H 0] 32)).alloc (.cells #[R (A.bt s) 0] 100)).alloc (.cells #[R (A.bc s) 0] 105)).alloc (.cells #[I c.op.F] 3)) n).trans (Grow.drew A.L _)
 have HF:=zH (fun n=>zA (tC (r4.drewN n).drew s c.op.F t.aJ (.func (.func 130) #[] #[.pointer (some ⟨w.heap.size+1+1,0,none⟩),.pointer (some ⟨w.heap.size+1,0,none⟩),.pointer (some ⟨w.heap.size+1+1+1,0,none⟩),R w.heap.size 0]) .change ⟨_,_,_,_,rfl,f2.box.grow (gd n),f1.box.grow (gd n),f3.box.grow (gd n),f0.box.grow (gd n)⟩) (g4.trans (gd n)));clear hR ht hc hx r3 g3 r4 g4 f0 f1 f2 f3 gd hpx;generalize c.op.F=F at*;generalize t.aJ=bg at*;go_enter Tryz.func98,Tryz.ntmps98;go_wp2_with fail;generalize (((w.alloc _).alloc _).alloc _).alloc _=w4 at*
 go_quiet (fail)
 go_wp2_with fail;generalize iZ:w4.drewN _=w5;have e0:w5.cell? (J w.heap.size 0)=zs A.H 0:=by rw[<-iZ];exact a0
 have e1:w5.cell? ⟨w.heap.size+1,0,none⟩=zs (A.bt s) 0:=by rw[<-iZ];exact a1
 have e3:w5.cell? ⟨w.heap.size+1+1+1,0,none⟩=zt F:=by rw[<-iZ];exact a3
 have eb:w5.cell? (J (A.bt s) 3)=zv bg:=by rw[<-iZ];exact ab
 have Q7:∀ n,w4.drewN n=w5->zk 114 #[R A.H 0,R (A.bt s) 0,I F,zu bg,.func (.func 130) #[] #[.pointer (some ⟨w.heap.size+1+1,0,none⟩),.pointer (some ⟨w.heap.size+1,0,none⟩),.pointer (some ⟨w.heap.size+1+1+1,0,none⟩),R w.heap.size 0]] w5.drew (bE A w5.drew s (D,.start ⟨F,bg,.change⟩))∧Grow A.L w A.L w5.drew:=fun n h=>by rw[<-h];exact HF.out n
 have TQ:=Q7 _ iZ;have TS:=zH TQ;clear a0 a1 a2 a3 a7 ab hlk HF Q7 TQ iZ;refine wp_region_still_tail 8 (by kernel_rfl) (by kernel_rfl) ?_;simp only[jS,jT,jU,jV]
 repeat still_step
 refine wpStill_nil ?_;go_wp2_with (go_at_call 114;refine (TS.out.1).mono ?_;rintro e w2 ⟨A2,v,rfl,p1,p2,p3,p4⟩);go_ret;exact⟨A2,v,rfl,p1,TS.out.2.trans p2,p3,p4⟩
theorem Du (hR:aC A D w) (s:Nat) (c:dN) (hc:D.calls.getD s none=some c) (Q:Ending->World->Prop) (h1:c.op.kind=1->zk 94 #[R A.H 0,R (A.bt s) 0,R (A.bc s) 0] w Q) (h5:c.op.kind=5->zk 95 #[R A.H 0,R (A.bt s) 0,R (A.bc s) 0,I c.op.F] w Q) (h6:c.op.kind=6->zk 96 #[R A.H 0,R (A.bt s) 0,R (A.bc s) 0] w Q) (h7:c.op.kind=7->zk 97 #[R A.H 0,R (A.bt s) 0,R (A.bc s) 0,I 0,I 1] w Q)
 (hz:c.op.kind≠1->c.op.kind≠5->c.op.kind≠6->c.op.kind≠7->zk 98 #[R A.H 0,R (A.bt s) 0,R (A.bc s) 0] w Q) (hQ:∀ e E,Q e E->∃ v,e=.returned v):
 zk 70 #[R A.H 0,R (A.bt s) 0,R (A.bc s) 0] w Q:=by
 have k0:w.cell? (J (A.bc s) 0)=zt c.op.kind:=hR.call hc 0 rfl;have k1:w.cell? (J (A.bc s) 1)=zt c.op.F:=hR.call hc 1 rfl;clear hR hc;generalize c.op.kind=kd at*;generalize c.op.F=F at*;have HQ:=zH hQ;clear hQ
 by_cases k1':kd=1
 . subst k1'
   have SK:w.cell? (J (A.bc s) 0)=zt 1:=k0;clear k0;have HC:=zH (h1 rfl);clear h1 h5 h6 h7 hz;go_enter Tryz.func70,Tryz.ntmps70;go_wp2_with (go_at_call 94;refine HC.out.mono ?_;intro e w2 hq;obtain⟨v,rfl⟩:=HQ.out e w2 hq;have HV:=zH hq;clear hq);exact HV.out
 . skip
   by_cases TU:kd=5
   . subst TU
     have SK:w.cell? (J (A.bc s) 0)=zt 5:=k0;clear k0;have HC:=zH (h5 rfl);clear h1 h5 h6 h7 hz;clear k1';go_enter Tryz.func70,Tryz.ntmps70;go_wp2_with (go_at_call 95;refine HC.out.mono ?_;intro e w2 hq;obtain⟨v,rfl⟩:=HQ.out e w2 hq;have HV:=zH hq;clear hq);exact HV.out
   . skip
     by_cases Vs:kd=6
     . subst Vs
       have SK:w.cell? (J (A.bc s) 0)=zt 6:=k0;clear k0;have HC:=zH (h6 rfl);clear h1 h5 h6 h7 hz;clear k1' TU;go_enter Tryz.func70,Tryz.ntmps70;go_wp2_with (go_at_call 96;refine HC.out.mono ?_;intro e w2 hq;obtain⟨v,rfl⟩:=HQ.out e w2 hq;have HV:=zH hq;clear hq);exact HV.out
     . skip
       by_cases Wh:kd=7
       . subst Wh
         have SK:w.cell? (J (A.bc s) 0)=zt 7:=k0;clear k0;have HC:=zH (h7 rfl);clear h1 h5 h6 h7 hz;clear k1' TU Vs;go_enter Tryz.func70,Tryz.ntmps70;go_wp2_with (go_at_call 97;refine HC.out.mono ?_;intro e w2 hq;obtain⟨v,rfl⟩:=HQ.out e w2 hq;have HV:=zH hq;clear hq);exact HV.out
       . skip
         have a1:((kd:Int)==1)=false:=by simp;omega
         have b1:((kd:Int)=1)=False:=by simp;omega
         have n1:(kd=1)=False:=by simp;omega
         have a5:((kd:Int)==5)=false:=by simp;omega
         have b5:((kd:Int)=5)=False:=by simp;omega
         have n5:(kd=5)=False:=by simp;omega
         have a6:((kd:Int)==6)=false:=by simp;omega
         have b6:((kd:Int)=6)=False:=by simp;omega
         have n6:(kd=6)=False:=by simp;omega
         have a7:((kd:Int)==7)=false:=by simp;omega
         have b7:((kd:Int)=7)=False:=by simp;omega
         have n7:(kd=7)=False:=by simp;omega
         have HC:=zH (hz k1' TU Vs Wh);clear h1 h5 h6 h7 hz;clear k1' TU Vs Wh;go_enter Tryz.func70,Tryz.ntmps70;go_wp2_with (go_at_call 98;refine HC.out.mono ?_;intro e w2 hq;obtain⟨v,rfl⟩:=HQ.out e w2 hq;have HV:=zH hq;clear hq);exact HV.out
theorem xh (hR:aC A D w) (s:Nat) (c:dN) (hc:D.calls.getD s none=some c) (r:oZ) (a:Option Addr) (pn pc:Nat) (vp:Value) (hvp:vp=.slice a pn pc)
 (hp:(vp=A.aY s∧r.aO=c.r.aO)∨(vp=.slice none 0 0∧r.aO=[])):
 zk 141 #[R A.H 0,R (A.bc s) 0,.agg #[I r.e,I r.value,vp,I r.over,I r.aQ]] w (kY A w s (D.finish s r,none)):=by
 obtain⟨r1,g1,f0⟩:=dA hR #[I r.e,I r.value,vp,I r.over,I r.aQ] 46;obtain⟨r2,g2⟩:=r1.QB hc r vp hp;have hc2:(D.aK s {c with r:=r}).calls.getD s none=some {c with r:=r}:=by rw[dm (bP hc),aV rfl]
 obtain⟨r3,g3⟩:=r2.sK hc2 {c with r:=r,over:=true} 11 (.bool true) rfl rfl;have c11:=r2.call hc2 11 (v:=.bool c.over) rfl;have OC:=r2.qh hc2 11;have ht:(w.alloc (.cells #[I r.e,I r.value,vp,I r.over,I r.aQ] 46)).there (A.bc s) 5 5:=by
  intro j hj;refine⟨?_,r1.qh hc _⟩
  match j,hj with
  |0,_=>rw[r1.call hc 5 rfl];rfl
  |1,_=>rw[r1.call hc 6 rfl];rfl
  |2,_=>rw[r1.call hc 7 rfl];rfl
  |3,_=>rw[r1.call hc 8 rfl];rfl
  |4,_=>rw[r1.call hc 9 rfl];rfl
 have b0:=f0.cell 0 (v:=I r.e) rfl;have b1:=f0.cell 1 (v:=I r.value) rfl;have b2:=f0.cell 2 (v:=vp) rfl;have b3:=f0.cell 3 (v:=I r.over) rfl;have b4:=f0.cell 4 (v:=I r.aQ) rfl;have e:D.finish s r=(D.aK s {c with r:=r}).aK s {c with r:=r,over:=true}:=by
  unfold St.finish St.aK;rw[bu hc];simp
 rw[e];have HR:Hid (∀ ws,ws=(w.alloc (.cells #[I r.e,I r.value,vp,I r.over,I r.aQ] 46)).setCells (A.bc s) 5 [I r.e,I r.value,vp,I r.over,I r.aQ]->zB ws (A.bc s) 11 c.over∧ws.frozen? (J (A.bc s) 11)=false∧aC (A.sU s vp) ((D.aK s {c with r:=r}).aK s {c with r:=r,over:=true}) (ws.setCell (J (A.bc s) 11) (.bool true))∧Grow A.L w A.L (ws.setCell (J (A.bc s) 11) (.bool true))):=by
  rintro ws rfl;exact⟨c11,OC,r3,(g1.trans g2).trans g3⟩
 have HT:=zH ht;clear hR hc r1 g1 f0 r2 g2 hc2 r3 g3 ht e hp c11 OC;subst hvp;go_enter Tryz.func141,Tryz.ntmps141;go_wp2_with (refine wpList_store_mid rfl 46 (.tmp 10) (.tmp 8) rfl (A.bc s) 5 #[I r.e,I r.value,.slice a pn pc,I r.over,I r.aQ] rfl rfl HT.out (by kernel_rfl) (by simp[Value.oneCell']) ?_;generalize hws:World.setCells _ _ _ _=ws;obtain⟨k1,k2,k3⟩:=HR.out ws hws.symm;have HK:=zH k3;clear k3 hws);go_ret;exact⟨_,_,rfl,HK.out.1,HK.out.2,⟨rfl,rfl,rfl,rfl,rfl,rfl,rfl,rfl,rfl,rfl,rfl,fun _ _=>rfl,fun k Z=>bH _ _ Z⟩,rfl⟩
theorem TW (hR:aC A D w) (s:Nat) (c:dN) (hc:D.calls.getD s none=some c) (r:oZ) (b0 b1 b2:Nat) (B0:aN A.L w b0 (R A.H 0)) (B1:aN A.L w b1 (R (A.bc s) 0)) (B2:mq (kp A D s) A.L w b2 r):
 zk 140 #[R b0 0,R b1 0,R b2 0] w (kY A w s (D.run s (.fin r))):=by
 obtain⟨vp,TT,F2,hp⟩:=B2;have hps:(kp A D s).ps=c.r.aO:=by show (D.c s).r.aO=_;rw[bu hc]
 rw[hps] at hp;have hform:∃ a n cap,vp=.slice a n cap:=by
  rcases hp with ⟨h1,_⟩|⟨h1,_⟩
  . have aU:=hR.mem.all (.aO s)
    rw[iI hc] at aU;obtain⟨a,cap,h2,_⟩:=Ow.bN aU.1;exact⟨a,_,cap,h1.trans h2⟩
  . exact⟨none,0,0,h1⟩
 obtain⟨a,pn,pc,hvp⟩:=hform;have HF:=zH (xh hR s c hc r a pn pc vp hvp hp);have c0:=B0.cell;have c1:=B1.cell;have d0:=F2.cell 0 (v:=I r.e) rfl;have d1:=F2.cell 1 (v:=I r.value) rfl;have d2:=F2.cell 2 (v:=vp) rfl;have d3:=F2.cell 3 (v:=I r.over) rfl;have d4:=F2.cell 4 (v:=I r.aQ) rfl;clear hR hc B0 B1 F2 hp hps;subst hvp;go_enter Tryz.func140,Tryz.ntmps140;go_wp2_with (go_at_call 141;refine HF.out.mono ?_;rintro e w2 ⟨A2,v,rfl,p1,p2,p3,rfl⟩);go_ret;exact⟨A2,_,rfl,p1,p2,p3,rfl⟩
def Told (A:au) (w:World) (s:Nat) (bB:St):Ending->World->Prop:=fun e E=>e=.returned (.tuple #[])∧∃ A',aC A' bB E∧Grow A.L w A'.L E∧bT A A' s∧A'.bx=A.bx∧A'.aY=A.aY
theorem Ji (hR:aC A D w) (s:Nat) (t:bL) (ht:D.aj.getD s none=some t) (e:Ev) (kk tt rr:Int) (hcs:ng e (.slice none 0 0)=[I kk,I tt,zu 0,I 0,I 0,I 0,I 0,I 0,I 0,.slice none 0 0,I 0,I rr]) (hp:e.res.aO=[]) (hn:D.aT.length<1000000) (b0 b1 b2:Nat) (B0:aN A.L w b0 (R (A.bt s) 0)) (B1:aN A.L w b1 (R A.H 0)) (TT:TypeId) (X2:Fix A.L w b2 (.cells #[I kk,I tt,zu 0,I 0,I 0,I 0,I 0,I 0,I 0,.slice none 0 0,I 0,I rr] TT)):
 zk 147 #[R b0 0,R b1 0,R b2 0] w (Told A w s (D.event e)):=by
 have c0:=B0.cell;have t13:w.cell? (J (A.bt s) 13)=zb (A.lS s):=hR.fw ht 13 rfl;have Km:=hR.wO ht 13;obtain⟨r1,g1⟩:=hR.NI ht true;have B1':=(B1.grow g1).cell;have Jj:=X2.grow g1;have x0:=Jj.cell 0 (v:=I kk) rfl;have x1:=Jj.cell 1 (v:=I tt) rfl;have x2:=Jj.cell 2 (v:=zu 0) rfl;have x3:=Jj.cell 3 (v:=I 0) rfl;have x4:=Jj.cell 4 (v:=I 0) rfl;have x5:=Jj.cell 5 (v:=I 0) rfl;have x6:=Jj.cell 6 (v:=I 0) rfl;have x7:=Jj.cell 7 (v:=I 0) rfl;have x8:=Jj.cell 8 (v:=I 0) rfl;have x9:=Jj.cell 9 (v:=.slice none 0 0) rfl;have SN:=Jj.cell 10 (v:=I 0) rfl;have x11:=Jj.cell 11 (v:=I rr) rfl;have he:=mY r1 s e kk tt 0 0 0 0 0 0 0 0 rr none 0 0 hcs (by rw[hp];exact kW.nil _ _) hn;have HE:=zH (zA he g1);clear hR ht B0 B1 X2 Jj r1 g1 he hcs hp hn;go_enter Tryz.func147,Tryz.ntmps147;go_wp2_with (go_at_call 50;refine HE.out.1.mono ?_;rintro e' w2 ⟨rfl,A2,q1,q2,q3,q4,q5⟩)
 go_end0
 exact⟨rfl,A2,q1,HE.out.2.trans q2,⟨q3.bf,q3.ba,q3.bp,q3.bt,q3.bm,q3.bc,q3.bA,q3.bF,q3.dX,q3.mp,q3.mt,q3.bx,q3.aY⟩,q4,q5⟩
theorem Dv (hR:aC A D w) (s:Nat) (t:bL) (ht:D.aj.getD s none=some t) (hm:A.mt s=0) (e:Ev) (kk tt rr:Int) (hcs:ng e (.slice none 0 0)=[I kk,I tt,zu 0,I 0,I 0,I 0,I 0,I 0,I 0,.slice none 0 0,I 0,I rr]) (hp:e.res.aO=[]) (hn:D.aT.length<1000000):
 zk 125 #[R A.H 0,R (A.bt s) 0,.agg #[I kk,I tt,zu 0,I 0,I 0,I 0,I 0,I 0,I 0,.slice none 0 0,I 0,I rr]] w (Told A w s (D.dH s e)):=by
 obtain⟨r3,g3,f0,f1,f2⟩:=je hR #[R A.H 0] 32 #[R (A.bt s) 0] 100 #[I kk,I tt,zu 0,I 0,I 0,I 0,I 0,I 0,I 0,.slice none 0 0,I 0,I rr] 62;have a1:=f1.cell 0 (v:=R (A.bt s) 0) rfl
 by_cases ho:t.over=true
 . have e0:D.dH s e=D:=by unfold St.dH;rw[cK ht,aV ho]
   rw[e0];have TY:=r3.fw ht 10 (v:=.int .u32 1) (by simp[eO,jb,ho]);have HD:=zH (fun fv=>Ic (J (A.bt s) 10) fv _ TY);have HR:=zH (zA r3 g3);clear hR ht r3 g3 f0 f1 f2 hm hcs hp hn ho e0 TY;go_enter Tryz.func125,Tryz.ntmps125;go_wp2_with (go_at_call 146;refine (HD.out _).mono ?_;rintro e' w2 ⟨rfl,rfl⟩)
   go_end0
   exact⟨rfl,A,HR.out.1,HR.out.2,bT.refl _ _,rfl,rfl⟩
 . have ho':t.over=false:=by simpa using ho
   have e0:D.dH s e=(D.bK s {t with over:=true}).event e:=by unfold St.dH;rw[cK ht,aR ho]
   rw[e0];have TY:=r3.fw ht 10 (v:=.int .u32 0) (by simp[eO,jb,ho']);have Yc:=r3.fw ht 11 (v:=.int .i32 0) (by simp[eO,jb,hm]);have Kn:=r3.wO ht 10;have OC:=r3.wO ht 11;obtain⟨r4,g4⟩:=r3.Hu ht 1;have hf:=Ji r4 s t ht e kk tt rr hcs hp hn (w.heap.size+1) w.heap.size (w.heap.size+1+1) (f1.box.grow g4) (f0.box.grow g4) _ (f2.grow g4)
   have hd := CP (A.bt s) 10 147 #[.pointer (some ⟨w.heap.size + 1, 0, none⟩), R w.heap.size 0, .pointer (some ⟨w.heap.size + 1 + 1, 0, none⟩)] _ _ TY Yc Kn OC (Fu _) hf (by
     rintro E ⟨A',q1,q2,q3,q4,q5⟩
     have ht':(D.event e).aj.getD s none=some t:=ht
     have b10:=q1.fw ht' 10 (v:=.int .u32 0) (by simp[eO,jb,ho'])
     have b11:=q1.fw ht' 11 (v:=.int .i32 1) (by simp[eO,jb,q3.mt])
     have Np:=q1.wO ht' 10
     have SQ:=q1.wO ht' 11
     rw[q3.bt] at b10 b11 Np SQ
     exact⟨b10,b11,Np,SQ⟩)
   have HD:=zH hd;have HR:=zH (zA g3 g4);have HT:=zH (zA ht hm);clear hR ht r3 g3 f0 f1 f2 hm hcs hp hn ho ho' e0 TY Yc Kn OC r4 g4 hf hd;go_enter Tryz.func125,Tryz.ntmps125;go_wp2_with (go_at_call 146;refine HD.out.mono ?_;rintro e' w2 ⟨rfl,w3,⟨A',q1,q2,q3,q4,q5⟩,rfl⟩)
   go_end0
   have ht':(D.event e).aj.getD s none=some t:=HT.out.1;obtain⟨k1,g5⟩:=q1.drew.NJ ht';have ht2:((D.event e).bK s {t with over:=true}).aj.getD s none=some {t with over:=true}:=by rw[dC (dB ht'),aV rfl]
   obtain⟨k2,g6⟩:=k1.Hu ht2 0;have gg:=((((HR.out.1.trans HR.out.2).trans q2).trans (Grow.drew _ _)).trans g5).trans g6;have eb:A'.bt s=A.bt s:=by rw[q3.bt]
   rw[eb] at k2 gg;refine⟨rfl,_,k2,gg,⟨q3.bf,q3.ba,q3.bp,q3.bt,q3.bm,q3.bc,q3.bA,q3.bF,q3.dX,q3.mp,?_,q3.bx,q3.aY⟩,q4,q5⟩;show (fun k=>if k=s then 0 else A'.mt k)=A.mt;rw[q3.mt]
   funext k
   show (if k=s then 0 else if k=s then 1 else A.mt k)=A.mt k
   by_cases Z:k=s
   . rw[aV Z,Z,HT.out.2]
   . rw[aR Z,aR Z]
theorem Bo (h:aC A D w) (i n:Nat) (z y:Int) (hz:z=(i:Int)) (hy:y=(n:Int)) (hi:i<D.words.length) (hc:D.count<4000000000000000000):
 zk 47 #[R A.ba 0,I z,zu y] w (vC A w (D.put i n) (.tuple #[])):=by subst hz hy;exact fT h i n hi hc
theorem pG (l:List zy):(lW l).length=l.length*3:=by
 induction l with
 |nil=>rfl
 |cons x l ih=>simp only[lW,List.flatMap_cons,jR,List.length_cons,List.length_nil] at ih ⊢;omega
theorem zR (hR:aC A D w) (s:Nat) (l:List zy) (lv:Value) (hl:dS A.L w 3 lv (lW l)) (r:oZ) (vp:Value) (hp:(vp=A.aY s∧r.aO=(D.c s).r.aO)∨(vp=.slice none 0 0∧r.aO=[])):
 zk 128 #[R A.H 0,R (A.bt s) 0,R (A.bc s) 0,lv,.agg #[I r.e,I r.value,vp,I r.over,I r.aQ]] w (bE A w s (D,.turns l r)):=by
 have hl0:=hl;obtain⟨a,n,cap,rfl,hlen,hcap,hmax,hrow⟩:=hl;rw[pG] at hlen;have FA:=zH (jB hR #[R A.H 0] 32 #[R (A.bt s) 0] 100 #[R (A.bc s) 0] 105 #[.slice a n cap] 232 #[I r.e,I r.value,vp,I r.over,I r.aQ] 46);have HL:=zH (zA hl0 hp);clear hR hp hl0 hcap hmax hrow
 cases l with
 |nil=>
  obtain rfl:n=0:=by simp at hlen;omega
  clear hlen;go_enter Tryz.func128,Tryz.ntmps128;go_wp2_with fail;go_ret;obtain⟨r1,r2,f0,f1,f2,f3,f4⟩:=FA.out;exact⟨A,_,rfl,r1,r2,bT.refl _ _,_,_,_,_,rfl,f0.box,f1.box,f2.box,_,_,f4,HL.out.2⟩
 |cons x l=>
  have hn0:n≠0:=by simp at hlen;omega
  have d1:((n:Int)==0)=false:=by simp;omega
  have d2:((n:Int)=0)=False:=by simp;omega
  have d3:(n=0)=False:=by simp;omega
  clear hlen hn0;go_enter Tryz.func128,Tryz.ntmps128;go_wp2_with fail;go_ret;obtain⟨r1,r2,f0,f1,f2,f3,f4⟩:=FA.out;exact⟨A,_,rfl,r1,r2,bT.refl _ _,_,_,_,_,_,rfl,⟨_,f3.box,HL.out.1.grow r2⟩,f0.box,f1.box,f2.box,_,_,f4,HL.out.2⟩
theorem Lc (hR:aC A D w) (s:Nat) (t:bL) (ht:D.aj.getD s none=some t) (c:dN) (hc:D.calls.getD s none=some c) (r:oZ) (hs:s<8) (aL:D.count<4000000000000000000) (b0 b1 b2 b3:Nat)
 (B0:aN A.L w b0 (R A.H 0)) (B1:aN A.L w b1 (R (A.bt s) 0)) (B2:aN A.L w b2 (R (A.bc s) 0)) (B3:mq (kp A D s) A.L w b3 r):
 zk 149 #[R b0 0,R b1 0,R b2 0,R b3 0] w (kY A w s (D.run s (.turns [] r))):=by
 obtain⟨vp,TR,FR,hp⟩:=B3;have hps:(kp A D s).ps=c.r.aO:=by show (D.c s).r.aO=_;rw[bu hc]
 rw[hps] at hp;have hform:∃ a n cap,vp=.slice a n cap:=by
  rcases hp with ⟨h1,_⟩|⟨h1,_⟩
  . have aU:=hR.mem.all (.aO s)
    rw[iI hc] at aU;obtain⟨a,cap,h2,_⟩:=Ow.bN aU.1;exact⟨a,_,cap,h1.trans h2⟩
  . exact⟨none,0,0,h1⟩
 obtain⟨va,vn,vc,hvp⟩:=hform;have c0:=B0.cell;have c1:=B1.cell;have c2:=B2.cell;have e2:=hR.z2;have t2:w.cell? (J (A.bt s) 2)=zt s:=hR.fw ht 2 rfl;have n1:IntKind.i64.wrap (1+(s:Int))=1+(s:Int):=by rw[jG];omega
 have HL:=zH (Bo hR.drew (1+s) 0 (1+(s:Int)) 0 (by omega) rfl (by rw[hR.nw];omega) aL);have HG:=zG A.L w;have HK:Hid (∀ E,aC A D E->Grow A.L w A.L E->zS E b0 0 A.H 0∧zS E A.H 2 A.ba 0∧zS E b1 0 (A.bt s) 0∧zT E (A.bt s) 2 s):=fun E r g=>⟨(B0.grow g).cell,r.df 2 rfl,(B1.grow g).cell,r.fw ht 2 rfl⟩
 have HB:Hid (∀ Y,aC A (D.put (1+s) 0) Y->Grow A.L w A.L Y->zk 141 #[R A.H 0,R (A.bc s) 0,.agg #[I r.e,I r.value,vp,I r.over,I r.aQ]] Y (kY A Y s ((D.put (1+s) 0).finish s r,none))∧zS Y b0 0 A.H 0∧zS Y b2 0 (A.bc s) 0∧zT Y b3 0 r.e∧zT Y b3 1 r.value∧Y.cell? (J b3 2)=some vp∧zT Y b3 3 r.over∧zT Y b3 4 r.aQ):=by
  intro Y q g;have fr:=FR.grow g;exact⟨xh q s c hc r va vn vc vp hvp hp,(B0.grow g).cell,(B2.grow g).cell,fr.cell 0 rfl,fr.cell 1 rfl,fr.cell 2 rfl,fr.cell 3 rfl,fr.cell 4 rfl⟩
 have aX:D.run s (.turns [] r)=((D.put (1+s) 0).finish s r,none):=rfl;rw[aX];clear hR ht hc hs aL B0 B1 B2 FR hp hps aX;subst hvp;go_enter Tryz.func149,Tryz.ntmps149;go_wp2_with fail;refine wp_region_still_tail 9 (by kernel_rfl) (by kernel_rfl) ?_;simp only[jS,jT,jU,jV]
 repeat still_step
 refine wpStill_nil ?_;change wpList _ _ _ _ _ w.drew;generalize w.drew=wd at*;go_wp2_with (first|(go_at_call 47;refine HL.out.mono ?_;rintro e Y ⟨rfl,q1,q2⟩;have g1:=HG.out.trans q2;obtain⟨hf,d0,d2,k0,k1,k2,k3,k4⟩:=HB.out Y q1 g1;have HQ:=zH (zA hf g1);clear q1 q2 g1 hf)|(go_at_call 141;refine HQ.out.1.mono ?_;rintro e w2 ⟨A2,v,rfl,p1,p2,p3,rfl⟩))
 trace_state
 go_ret;exact⟨A2,_,rfl,p1,HQ.out.2.trans p2,p3,rfl⟩
theorem Ld (hR:aC A D w) (s:Nat) (c:dN) (hc:D.calls.getD s none=some c) (x:zy) (l:List zy) (r:oZ) (hx:x.at_<D.words.length) (aL:D.count<4000000000000000000) (b0 b1 b2 b3 b4:Nat)
 (B0:nQ A.L w b0 (x::l)) (B1:aN A.L w b1 (R A.H 0)) (B2:aN A.L w b2 (R (A.bt s) 0)) (B3:aN A.L w b3 (R (A.bc s) 0)) (B4:mq (kp A D s) A.L w b4 r):
 zk 150 #[R b0 0,R b1 0,R b2 0,R b3 0,R b4 0] w (kY A w s (D.run s (.turns (x::l) r))):=by
 obtain⟨vp,TR,FR,hp⟩:=B4;have hps:(kp A D s).ps=c.r.aO:=by show (D.c s).r.aO=_;rw[bu hc]
 rw[hps] at hp;have hform:∃ a n cap,vp=.slice a n cap:=by
  rcases hp with ⟨h1,_⟩|⟨h1,_⟩
  . have aU:=hR.mem.all (.aO s)
    rw[iI hc] at aU;obtain⟨a,cap,h2,_⟩:=Ow.bN aU.1;exact⟨a,_,cap,h1.trans h2⟩
  . exact⟨none,0,0,h1⟩
 obtain⟨va,vn,vc,hvp⟩:=hform;obtain⟨lv,X0,R0⟩:=B0;obtain⟨a,n,cap,rfl,hlen,hcap,hmax,hrow⟩:=R0;rw[pG] at hlen;obtain rfl:n=l.length+1:=by simp at hlen;omega
 obtain⟨g,off,rfl,Vl,Oh,hcs⟩:=hrow.resolve_left (by omega);have c0:=X0.cell;have c1:=B1.cell;have c2:=B2.cell;have c3:=B3.cell;have e2:=hR.z2;have l0:w.cell? (J g off)=zt x.at_:=hcs 0 (by omega);have l1:w.cell? (J g (off+1))=zv x.old:=hcs 1 (by omega);have l2:w.cell? (J g (off+2))=zv x.new:=hcs 2 (by omega);obtain⟨r1,g1,f0⟩:=dA hR #[I x.at_,zu x.old,zu x.new] 234;have y0:=f0.cell 0 (v:=I x.at_) rfl;have y1:=f0.cell 1 (v:=zu x.old) rfl;have y2:=f0.cell 2 (v:=zu x.new) rfl;have z1:=(B1.grow g1).cell;have ze:=r1.df 2 (v:=R A.ba 0) rfl;obtain⟨a',ha'⟩:∃ a',a'=if cap=1 then (some ((J g off):Addr)) else some (J g (off+3)):=⟨_,rfl⟩
 have hsl:∀ E,(Instr.slice 232 (.slice (some (J g off)) (l.length+1) cap) (some (I 1)) none none).run Tryz.prog E=.ok (.slice a' l.length (cap - 1)) E:=by
  intro E;have he:Tryz.prog.elem 232=234:=by kernel_rfl
  have hz:(sizeOf 234).run Tryz.prog E=.ok 3 E:=by kernel_rfl
  rw[run_slice_l (P:=Tryz.prog) E 232 (some (J g off)) (l.length+1) cap (by kernel_rfl) .i64 1 (by decide) (by omega),he,hz,ha']
  by_cases h1:cap=1
  . simp[Result.andThen,sliced,h1]
  . simp[Result.andThen,sliced,h1,Addr.add]
 have HB : Hid (∀ bB w2, aC A bB w2 -> bB.calls = D.calls -> Grow A.L w A.L w2 -> w2.cell? (J b0 0) = some (.slice (some (J g off)) (l.length + 1) cap) ∧ zS w2 b1 0 A.H 0 ∧ zS w2 b2 0 (A.bt s) 0 ∧ zS w2 b3 0 (A.bc s) 0 ∧ zT w2 b4 0 (r.e : Int) ∧ zT w2 b4 1 (r.value : Int) ∧ w2.cell? (J b4 2) = some vp ∧ zT w2 b4 3 (r.over : Int) ∧ zT w2 b4 4 (r.aQ : Int) ∧
     zk 128 #[R A.H 0,R (A.bt s) 0,R (A.bc s) 0,.slice a' l.length (cap - 1),.agg #[I r.e,I r.value,vp,I r.over,I r.aQ]] w2.drew (bE A w2.drew s (bB,.turns l r))):=by
  intro bB w2 q hcl gr;have fr:=FR.grow gr;have hrow':dS A.L w2.drew 3 (.slice a' l.length (cap - 1)) (lW l):=by
   refine⟨_,_,_,rfl,pG l,by omega,by omega,?_⟩
   by_cases hc1:cap=1
   . exact .inl (by omega)
   refine .inr ⟨g,off+3,by rw[ha',aR hc1],Vl,sG Oh gr.size,fun j hj=>?_⟩;rw[World.cell?_drew,World.cell?_of_block (w:=w) (a:=(J g (off+3+j))) (gr.block g Oh Vl),show off+3+j=off+(3+j) by omega,hcs (3+j) (by omega)];simp[lW,Nat.add_comm 3 j]
  have hp':(vp=A.aY s∧r.aO=(bB.c s).r.aO)∨(vp=.slice none 0 0∧r.aO=[]):=by
   have e:bB.c s=c:=by unfold St.c;rw[hcl,hc];rfl
   rw[e];exact hp
  exact⟨(X0.grow gr).cell,(B1.grow gr).cell,(B2.grow gr).cell,(B3.grow gr).cell,fr.cell 0 rfl,fr.cell 1 rfl,fr.cell 2 rfl,fr.cell 3 rfl,fr.cell 4 rfl,zR q.drew s l _ hrow' r vp hp'⟩
 clear ha';have HG:=zH (g1.trans (Grow.drew A.L (w.alloc (.cells #[I x.at_,zu x.old,zu x.new] 234))));have nl:¬ ((l.length:Int)+1<=0):=by omega
 have nl2:(0:Int)<(l.length:Int)+1:=by omega
 by_cases ho:x.old=0
 . have HL:=zH (fT r1.drew x.at_ x.new hx aL)
   have aX:D.run s (.turns (x::l) r)=(D.put x.at_ x.new,some (.turns l r)):=by simp only[St.run,aV ho]
   rw[aX];have HB1:=zH (fun w2 q gr=>HB.out (D.put x.at_ x.new) w2 q rfl gr);have d1:((x.old:Int)==0)=true:=by simpa using ho
   have d2:((x.old:Int)=0)=True:=by simpa using ho
   clear hR r1 g1 f0 hc hx aL X0 B1 B2 B3 FR hp hps aX HB ho hlen hcap hmax hrow hcs c1 c2 c3 e2;generalize x.at_=xa at*;generalize x.old=xo at*;generalize x.new=xn at*;subst hvp;go_enter Tryz.func150,Tryz.ntmps150;go_wp2_with fail;generalize w.alloc _=Y at*;refine wp_region_still_tail 8 (by kernel_rfl) (by kernel_rfl) ?_;simp only[jS,jT,jU,jV]
   repeat still_step
   refine wpStill_nil ?_;change wpList _ _ _ _ _ Y.drew;generalize Y.drew=wd at*;go_wp2_with (go_at_call 47;refine HL.out.mono ?_;rintro e w2 ⟨rfl,q1,q2⟩;have gr:=HG.out.trans q2;obtain⟨d0,d1,d2,d3,k0,k1,k2,k3,k4,hf⟩:=HB1.out w2 q1 gr;have HQ:=zH (zA hf (gr.trans (Grow.drew _ _)));clear q1 q2 gr hf);refine wp_region_still_tail 6 (by kernel_rfl) (by kernel_rfl) ?_;simp only[jS,jT,jU,jV]
   repeat still_step
   refine wpStill_nil ?_;change wpList _ _ _ _ _ w2.drew;generalize w2.drew=wd2 at*;go_wp2_with (go_at_call 128;refine HQ.out.1.mono ?_;rintro e w3 ⟨A2,v,rfl,p1,p2,p3,p4⟩);go_ret;exact⟨A2,v,rfl,p1,HQ.out.2.trans p2,p3,p4⟩
 . have HL:=zH (nO r1.drew x.at_ x.old x.new hx aL)
   have aX:D.run s (.turns (x::l) r)=(D.cB x.at_ x.old x.new,some (.turns l r)):=by simp only[St.run,aR ho]
   rw[aX];have HB1:=zH (fun w2 q gr=>HB.out (D.cB x.at_ x.old x.new) w2 q (by unfold St.cB;split<;>rfl) gr);have d1:((x.old:Int)==0)=false:=by simpa using ho
   have d2:((x.old:Int)=0)=False:=by simpa using ho
   clear hR r1 g1 f0 hc hx aL X0 B1 B2 B3 FR hp hps aX HB ho hlen hcap hmax hrow hcs c1 c2 c3 e2;generalize x.at_=xa at*;generalize x.old=xo at*;generalize x.new=xn at*;subst hvp;go_enter Tryz.func150,Tryz.ntmps150;go_wp2_with fail;generalize w.alloc _=Y at*;refine wp_region_still_tail 10 (by kernel_rfl) (by kernel_rfl) ?_;simp only[jS,jT,jU,jV]
   repeat still_step
   refine wpStill_nil ?_;change wpList _ _ _ _ _ Y.drew;generalize Y.drew=wd at*;go_wp2_with (go_at_call 45;refine HL.out.mono ?_;rintro e w2 ⟨rfl,q1,q2⟩;have gr:=HG.out.trans q2;obtain⟨d0,d1,d2,d3,k0,k1,k2,k3,k4,hf⟩:=HB1.out w2 q1 gr;have HQ:=zH (zA hf (gr.trans (Grow.drew _ _)));clear q1 q2 gr hf);refine wp_region_still_tail 6 (by kernel_rfl) (by kernel_rfl) ?_;simp only[jS,jT,jU,jV]
   repeat still_step
   refine wpStill_nil ?_;change wpList _ _ _ _ _ w2.drew;generalize w2.drew=wd2 at*;go_wp2_with (go_at_call 128;refine HQ.out.1.mono ?_;rintro e w3 ⟨A2,v,rfl,p1,p2,p3,p4⟩);go_ret;exact⟨A2,v,rfl,p1,HQ.out.2.trans p2,p3,p4⟩
theorem jD (a b:List zy):lW (a++b)=lW a++lW b:=by simp[lW]
theorem Qc:(Tryz.prog.info? 234).map (fun i=>(i.zero,i.size,i.bytes))=some (some (.agg #[I 0,zu 0,zu 0]),3,24):=by kernel_rfl
theorem tK {ops:Array Oper} {rest:List Oper} {o:Oper} {a:Act} {Q:Exit->Act->World->Prop} (w:World) (hgd:o.guard=none) (s x:Operand)
 (ho:o.op=.call {callee:=.builtin .append,args:=#[s,x],argTypes:=#[232,232]})
 (w0:World) (hb:Below w0.heap.size w0 w) (av:Option Addr) (m cap:Nat) (xs:List Value) (hs:a.eval s=.slice av m cap) (aU:w.ownsRow w0.heap.size 234 3 (.slice av m cap) m xs) (hm:m<4000000)
 (t0 t1 t2:Int) (hx:a.eval x=.slice (some (J w.heap.size 0)) 1 1)
 (h:∀ Ih cap' E,E.ownsRow w0.heap.size 234 3 (.slice Ih (m+1) cap') (m+1) (xs++[I t0,zu t1,zu t2])->Below w0.heap.size w0 E->wpList Tryz.prog ops Q rest (a.put o.dst (.slice Ih (m+1) cap')) E):
 wpList Tryz.prog ops Q (o::rest) a (w.alloc (.cells #[I t0,zu t1,zu t2] 234)):=by
 obtain⟨ii,hii,hz0,hz1,hz2⟩:=info_parts Qc;have hw:=hb.size;have hown':(w.alloc (.cells #[I t0,zu t1,zu t2] 234)).ownsRow w0.heap.size 234 3 (.slice av m cap) m xs:=oC aU fun g hg=>Below.heap_alloc _ _ _ (aU.lt g hg).2
 refine Ow.eu _ hgd s x 232 ho w0.heap.size 234 ii _ 3 24 Tryz.underlying232 hii hz0 hz1 hz2 rfl (by decide) (.slice av m cap) m xs hs hown' (J w.heap.size 0) 1 1 (by omega) [I t0,zu t1,zu t2] hx rfl (fun j u hu=>Ow.iw w [I t0,zu t1,zu t2] _ _ rfl j u hu) (by intro u hu;simp at hu;rcases hu with rfl|rfl|rfl<;>rfl) (by unfold maxLen;omega) (by omega) (by simp;omega) ?_;intro v' E q1 q2 q3;obtain⟨Ih,cap',rfl,_⟩:=Ow.bN q1;exact h Ih cap' E q1 ((hb.alloc hw _).grown q2 (by simp;omega) (fun g hg=>(aU.lt g hg).1))
theorem vI {L:dE} {w0 w:World} {av:Option Addr} {m cap:Nat} {xs:List Value} (h:w.ownsRow w0.heap.size 234 3 (.slice av m cap) m xs) (hL:∀ b,w0.heap.size<=b->L b=none):dS L w 3 (.slice av m cap) xs:=by
 obtain⟨a,c,e,h1,h2,h3⟩:=Ow.bN h;obtain⟨rfl,rfl⟩:av=a∧cap=c:=by simpa using e
 refine⟨av,m,cap,rfl,h.1,h1,by unfold maxLen;omega,?_⟩
 rcases h.2 with ⟨h0,hn⟩|⟨g,cap',cur,hv,hb,hg,hnc,hcm,hcs,htake⟩
 . exact .inl (by first|exact h0|omega)
 . obtain⟨rfl,rfl⟩:av=za g 0∧cap=cap':=by simpa using hv
   refine .inr ⟨g,0,rfl,hL g (h.lt g rfl).1,(h.lt g rfl).2,fun j hj=>?_⟩;rw[Nat.zero_add];exact h.cellAt j hj
theorem Dw (hR:aC A D w) (s:Nat) (l:List zy) (lv:Value) (hl:dS A.L w 3 lv (lW l)) (r:oZ) (re rv ro rr:Int) (vp:Value) (hcs:CJ r vp=[I re,I rv,vp,I ro,I rr]) (hp:(vp=A.aY s∧r.aO=(D.c s).r.aO)∨(vp=.slice none 0 0∧r.aO=[])):
 zk 128 #[R A.H 0,R (A.bt s) 0,R (A.bc s) 0,lv,.agg #[I re,I rv,vp,I ro,I rr]] w (bE A w s (D,.turns l r)):=by
 have h:=zR hR s l lv hl r vp hp;simp only[CJ,List.cons.injEq,Value.int.injEq,true_and,and_true] at hcs;obtain⟨e1,e2,e3,e4⟩:=hcs;rw[e1,e2,e3,e4] at h;exact h
def FH (D:St) (t:bL):Prop:=∀ F∈t.keys,∃ x,t.cell F=some x∧(x.own=0∨VL D x.own)∧(x.old=0∨VL D x.old)
def lX (t:bL) (F:Nat):List zy:=
 (if ((t.cell F).getD default).own≠0 then ⟨af ((t.cell F).getD default).own 0,0,t.aA⟩::(if ((t.cell F).getD default).there then [] else [⟨af ((t.cell F).getD default).own 1,0,t.aA⟩]) else [])
 ++(if ((t.cell F).getD default).old≠0 then [⟨af ((t.cell F).getD default).old 1,0,t.aA⟩] else [])
theorem xm (D:St) (t:bL):eY D t=t.keys.flatMap (lX t):=rfl
theorem zU (f:Nat->List zy) (l:List Nat) (k:Nat) (h:k<l.length):(l.take (k+1)).flatMap f=(l.take k).flatMap f++f (l.getD k 0):=by
 rw[List.take_succ_eq_append_getElem h,List.flatMap_append];simp[List.getD,h]
theorem Bp (t:bL) (F:Nat):(lX t F).length<=3:=by
 unfold lX
 repeat' split
 all_goals simp
theorem vJ (f:Nat->List zy) (hf:∀ k,(f k).length<=3) (l:List Nat):(l.flatMap f).length<=3*l.length:=by
 induction l with
 |nil=>simp
 |cons x l ih=>simp only[List.flatMap_cons,jR,List.length_cons];have:=hf x;omega
theorem uJ (D:St) (x:Nat):(D.dx x).aj=D.aj:=by unfold St.dx St.cB;split<;>rfl
theorem FI (D:St) (x:Nat):(D.dx x).calls=D.calls:=by unfold St.dx St.cB;split<;>rfl
theorem OD (hR:aC A D w) (s:Nat) (t:bL) (ht:D.aj.getD s none=some t) (hen:t.aA<281474976710656) (hid:t.id<=2000) (hrl:t.reads.length<1000000) (aL:D.count<4000000000000000000) (b0 b1 b2:Nat)
 (B0:aN A.L w b0 (R A.H 0)) (B1:aN A.L w b1 (R (A.bt s) 0)) (B2:aN A.L w b2 (R (A.bc s) 0)):
 zk 121 #[R b0 0,R b1 0,R b2 0] w (kY A w s (D.run s .dR)):=by
 have c0:=B0.cell;have c1:=B1.cell;have t4:w.cell? (J (A.bt s) 4)=zv t.aA:=hR.fw ht 4 rfl;have t0:w.cell? (J (A.bt s) 0)=zt t.id:=hR.fw ht 0 rfl;have HC:=zH (flip (oI t.aA t.id hen (by omega) w.drew));have hlo:aZ (aW t.aA t.id)=t.id:=by unfold aZ aW;omega
 have HL:=zH (wR hR.drew (aW t.aA t.id) (by unfold aW;omega) (by omega) aL);have HG:=zG A.L w;have aX:D.run s .dR=(D.dx (aW t.aA t.id),some (dG t 0)):=by
  have e:(D.dx (aW t.aA t.id)).t s=t:=by unfold St.t;rw[uJ,ht];rfl
  simp only[St.run,cK ht,e]
 rw[aX];have HB:Hid (∀ Y,aC A (D.dx (aW t.aA t.id)) Y->Grow A.L w A.L Y->zk 122 #[R A.H 0,R (A.bt s) 0,R (A.bc s) 0,I 0] Y (bE A Y s (D.dx (aW t.aA t.id),dG t 0))∧zS Y b0 0 A.H 0∧zS Y b1 0 (A.bt s) 0∧zS Y b2 0 (A.bc s) 0):=
  fun Y q g=>⟨zP q s t (by rw[uJ];exact ht) 0 (zz _) hrl,(B0.grow g).cell,(B1.grow g).cell,(B2.grow g).cell⟩
 clear hR ht hen hid hrl aL B0 B1 B2 aX hlo;generalize D.dx (aW t.aA t.id)=aH at*;generalize dG t 0=k at*;go_enter Tryz.func121,Tryz.ntmps121;go_wp2_with fail;refine wp_region_still_tail 10 (by kernel_rfl) (by kernel_rfl) ?_;simp only[jS,jT,jU,jV]
 repeat still_step
 still_call HC.out
 refine wpStill_nil ?_;change wpList _ _ _ _ _ w.drew;generalize w.drew=wd at*;go_wp2_with (first|(go_at_call 44;refine HL.out.mono ?_;rintro e Y ⟨rfl,q1,q2⟩;have g1:=HG.out.trans q2;obtain⟨hf,d0,d1,d2⟩:=HB.out Y q1 g1;have HQ:=zH (zA hf g1);clear q1 q2 g1 hf)|(go_at_call 122;refine HQ.out.1.mono ?_;rintro e w2 ⟨A2,v,rfl,p1,p2,p3,p4⟩));go_ret;exact⟨A2,v,rfl,p1,HQ.out.2.trans p2,p3,p4⟩
set_option maxHeartbeats 16000000 in
theorem Le (hR:aC A D w) (s:Nat) (t:bL) (ht:D.aj.getD s none=some t) (hm:A.mt s=0) (hen:t.aA<=1099511627776) (hid:t.id<=2000) (hkl:t.keys.length<1000000) (hK:FH D t) (htl:D.aT.length<1000000) (aL:D.count<4000000000000000000) (b0 b1 b2:Nat)
 (B0:aN A.L w b0 (R A.H 0)) (B1:aN A.L w b1 (R (A.bt s) 0)) (B2:aN A.L w b2 (R (A.bc s) 0)):
 zk 184 #[R b0 0,R b1 0,R b2 0] w (kY A w s (D.run s .cZ)):=by
 have c0:=B0.cell;have c1:=B1.cell;have e2:=hR.z2;have t4:w.cell? (J (A.bt s) 4)=zv t.aA:=hR.fw ht 4 rfl;have t0:w.cell? (J (A.bt s) 0)=zt t.id:=hR.fw ht 0 rfl;have HP:=zH (fu hR.drew t.id (by omega));have HA:=zH (kX 3 (t.aA:Int) 3 t.aA rfl rfl (by omega) (by omega) w.drew);have HL:=zH (fT hR.drew (D.place t.id) (pack 3 t.aA) (by rw[hR.nw];unfold St.place;omega) aL);have HG:=zG A.L w;obtain⟨aD,yY⟩:∃ aD,aD=(D.put (D.place t.id) (pack 3 t.aA)).dH s {kind:=5,t:=t.id}:=⟨_,rfl⟩
 have aX:D.run s .cZ=(aD,some (.turns (t.keys.flatMap (lX t)) {over:=3})):=by
  rw[yY,<-xm (D.put (D.place t.id) (pack 3 t.aA)) t];simp only[St.run,cK ht];rfl
 rw[aX];obtain⟨t2,ht2,hk2,hc2,Lf⟩:∃ t2,aD.aj.getD s none=some t2∧t2.keys=t.keys∧t2.cells=t.cells∧t2.aA=t.aA:=by
  have ht1:(D.put (D.place t.id) (pack 3 t.aA)).aj.getD s none=some t:=ht;rw[yY];unfold St.dH;rw[cK ht1]
  by_cases ho:t.over=true
  . rw[aV ho];exact⟨t,ht1,rfl,rfl,rfl⟩
  . rw[aR ho]
    refine⟨{t with over:=true},?_,rfl,rfl,rfl⟩;show ((D.put (D.place t.id) (pack 3 t.aA)).bK s {t with over:=true}).aj.getD s none=_;rw[dC (dB ht1),aV rfl]
 have hsl2:aD.aF=D.aF:=by rw[yY];unfold St.dH;split<;>rfl
 have HB1:Hid (∀ Y,aC A (D.put (D.place t.id) (pack 3 t.aA)) Y->Grow A.L w A.L Y->zk 125 #[R A.H 0,R (A.bt s) 0,.agg #[I 5,I t.id,zu 0,I 0,I 0,I 0,I 0,I 0,I 0,.slice none 0 0,I 0,I 0]] Y.drew (Told A Y.drew s aD)∧zS Y b0 0 A.H 0∧zS Y b1 0 (A.bt s) 0∧zT Y (A.bt s) 0 t.id):=by
  intro Y q g;rw[yY];exact⟨Dv q.drew s t ht hm _ 5 t.id 0 rfl rfl htl,(B0.grow g).cell,(B1.grow g).cell,q.fw ht 0 rfl⟩
 have HB2 : Hid (∀ A2 w2, aC A2 aD w2 -> Grow A.L w A2.L w2 -> bT A A2 s -> A2.bx = A.bx -> ∀ w3, Below w2.heap.size w2 w3 -> zS w3 b0 0 A.H 0 ∧ zS w3 b1 0 (A.bt s) 0 ∧ zS w3 b2 0 (A.bc s) 0 ∧ zV w3 (A.bt s) 4 (t.aA : Int) ∧ w3.cell? (J (A.bt s) 7) = some (.map (some (A.bm s))) ∧ w3.cell? (J (A.bt s) 6) = some (A2.eH s) ∧
     (∃ av cap,A2.eH s=.slice av t.keys.length cap)∧(∀ k,k<t.keys.length->∀ g cap,A2.eH s=.slice (some (J g 0)) t.keys.length cap->w3.cell? (J g k)=zt (t.keys.getD k 0:Int))∧(∀ k,k<t.keys.length->∃ g cap,A2.eH s=.slice (some (J g 0)) t.keys.length cap)∧
     (∀ F x,t.cell F=some x->(Instr.lookup 116 (.map (some (A.bm s))) (I F) false).run Tryz.prog w3=.ok (R (A.bx s F) 0) w3∧zV w3 (A.bx s F) 0 x.own∧zV w3 (A.bx s F) 1 x.old∧zB w3 (A.bx s F) 2 x.there)):=by
  intro A2 w2 q g st hbx w3 hb;have r3:=q.below hb;have gg:=g.trans (Grow.below (L:=A2.L) hb);have a4:=r3.fw ht2 4 (v:=zu t2.aA) rfl;have a7:=r3.fw ht2 7 (v:=.map (some (A2.bm s))) rfl;have a6:=r3.fw ht2 6 (v:=A2.eH s) rfl;rw[st.bt] at a4 a7 a6;rw[st.bm] at a7;rw[Lf] at a4;have aU:=r3.mem.all (.keys s);rw[mem_keys ht2,hk2] at aU;obtain⟨av,cap,hv,_⟩:=Ow.bN aU.1;have hget:∀ k,k<t.keys.length->(t.keys.map i64)[k]? =some (i64 (t.keys.getD k 0)):=fun k Z=>by simp[List.getD,Z]
  refine⟨(B0.grow gg).cell,(B1.grow gg).cell,(B2.grow gg).cell,a4,a7,a6,⟨av,cap,hv⟩,fun k Z g' cap' hv'=>?_,fun k Z=>?_,fun F x hx=>?_⟩
  . obtain⟨g1,xc,hv1,hc1⟩:=kZ aU.1 (hget k Z)
    rw[hv'] at hv1;obtain⟨rfl,_⟩:g'=g1∧cap'=xc:=by simpa using hv1
    exact hc1
  . obtain⟨g1,xc,hv1,hc1⟩:=kZ aU.1 (hget k Z)
    exact⟨g1,xc,hv1⟩
  . have hx2:t2.cell F=some x:=by unfold bL.cell at hx ⊢;rw[hc2];exact hx
    have hl:=fZ r3 ht2 F;have hpx:A2.px s t2 F=R (A2.bx s F) 0:=by unfold au.px;rw[hx2];rfl
    rw[hpx,hbx,st.bm] at hl;obtain⟨x0,x1,x2⟩:=r3.Fb ht2 hx2;rw[hbx] at x0 x1 x2;exact⟨hl,x0,x1,x2⟩
 have HT:=zH (Word.KD (t.aA:Int) (by omega) (by omega));have Wi:Hid (∀ A2 w2,aC A2 aD w2->bT A A2 s->∀ w3 av m cap,Below w2.heap.size w2 w3->w3.ownsRow w2.heap.size 234 3 (.slice av m cap) m (lW (t.keys.flatMap (lX t)))->zk 128 #[R A.H 0,R (A.bt s) 0,R (A.bc s) 0,.slice av m cap,.agg #[I 0,I 0,.slice none 0 0,I 3,I 0]] w3 (bE A2 w3 s (aD,.turns (t.keys.flatMap (lX t)) {over:=3}))):=by
  intro A2 w2 q st w3 av m cap hb ho;have h:=Dw (q.below hb) s (t.keys.flatMap (lX t)) (.slice av m cap) (vI ho q.mem.fresh) {over:=3} 0 0 3 0 (.slice none 0 0) rfl (.inr ⟨rfl,rfl⟩);rw[st.H,st.bt,st.bc] at h;exact h
 have HS:Hid (∀ (l n:Nat),VL D l->n<=2->∀ w,zk 85 #[zu l,I n] w fun e E=>e=.returned (I ((af l n:Nat):Int))∧w=E):=fun l n hv hn E=>CG l n hv.lo (by have:=hv.hi;have:=hR.sl;omega) hv.u hn E
 have HKK:=zH (zA hK hkl);clear hR ht hm hen hid hkl hK htl aL B0 B1 B2 aX yY ht2 hk2 hc2 Lf hsl2;go_enter Tryz.func184,Tryz.ntmps184;go_wp2_with fail;refine wp_region_still_tail 15 (by kernel_rfl) (by kernel_rfl) ?_;simp only[jS,jT,jU,jV]
 repeat still_step
 still_call HP.out
 repeat still_step
 still_call HA.out
 refine wpStill_nil ?_;change wpList _ _ _ _ _ w.drew;generalize w.drew=wd at*;go_wp2_with (go_at_call 47;refine HL.out.mono ?_;rintro e Y ⟨rfl,q1,q2⟩;have g1:=HG.out.trans q2;obtain⟨hf,d0,d1,d2⟩:=HB1.out Y q1 g1;have HQ:=zH (zA hf (g1.trans (Grow.drew _ _)));clear q1 q2 g1 hf);refine wp_region_still_tail 7 (by kernel_rfl) (by kernel_rfl) ?_;simp only[jS,jT,jU,jV]
 repeat still_step
 refine wpStill_nil ?_;change wpList _ _ _ _ _ Y.drew;generalize Y.drew=Tt at*;go_wp2_with (first|(go_at_call 125;refine HQ.out.1.mono ?_;rintro e w2 ⟨rfl,A2,q1,q2,q3,q4,q5⟩;obtain⟨y0,y1,y2,y4,y7,y6,⟨kv,kc,Q8⟩,_,_,_⟩:=HB2.out A2 w2 q1 (HQ.out.2.trans q2) q3 q4 w2 (Below.refl _ _);rw[Q8] at y6;have H2:=zH (zA q1 (zA (HQ.out.2.trans q2) (zA q3 (zA q4 Q8))));clear q1 q2 q3 q4 q5 Q8)|(go_at_call 185;refine (HT.out _).mono ?_;rintro e w3 ⟨rfl,rfl⟩))
 go_loopw [6,47] (fun l i wr=>∃ k:Nat,k<=t.keys.length∧i=I k∧Below w2.heap.size w2 wr∧∃ av cap,l=.slice av ((t.keys.take k).flatMap (lX t)).length cap∧wr.ownsRow w2.heap.size 234 3 l ((t.keys.take k).flatMap (lX t)).length (lW ((t.keys.take k).flatMap (lX t)))) (fun _ i _=>t.keys.length - (intOf i).toNat)
 case atStart=>
  exact⟨0,zz _,rfl,Below.refl _ _,none,0,rfl,rfl,.inl ⟨rfl,rfl⟩⟩
 case round=>
  obtain⟨k,Z,rfl,hb,av,cap,rfl,aU⟩:=hrel;have hm0:=vJ (lX t) (Bp t) (t.keys.take k)
  by_cases hlt:k<t.keys.length
  . obtain⟨x0,x1,x2,x4,x7,x6,_,hget,hform,Lg⟩:=HB2.out A2 w2 H2.out.1 H2.out.2.1 H2.out.2.2.1 H2.out.2.2.2.1 wr hb
    obtain⟨g,cap',hv⟩:=hform k hlt;obtain⟨rfl,rfl⟩:kv=za g 0∧kc=cap':=by have:=H2.out.2.2.2.2.symm.trans hv;simpa using this
    have hke:=hget k hlt g kc hv;obtain⟨x,hx,ho1,ho2⟩:=HKK.out.1 (t.keys.getD k 0) (by simp[List.getD,hlt]);obtain⟨hlk,TZ,SS,OE⟩:=Lg _ x hx;have hfs:=zU (lX t) t.keys k hlt;have Ua:lX t (t.keys.getD k 0)=(if x.own≠0 then ⟨af x.own 0,0,t.aA⟩::(if x.there then [] else [⟨af x.own 1,0,t.aA⟩]) else [])++(if x.old≠0 then [⟨af x.old 1,0,t.aA⟩] else []):=by unfold lX;rw[hx];rfl
    rw[Ua] at hfs;have hlen:(t.keys.take k).length<=1000000:=by have:=HKK.out.2;simp;omega
    have HC:Hid (∀ E,Below w2.heap.size w2 E->zV E (A.bx s (t.keys.getD k 0)) 0 x.own∧zV E (A.bx s (t.keys.getD k 0)) 1 x.old∧zB E (A.bx s (t.keys.getD k 0)) 2 x.there):=fun E hb'=>by
     obtain⟨_,_,_,_,_,_,_,_,_,Ub⟩:=HB2.out A2 w2 H2.out.1 H2.out.2.1 H2.out.2.2.1 H2.out.2.2.2.1 E hb';exact (Ub _ x hx).2
    have HO:=zH (zA ho1 (zA ho2 (zA hlt hfs)));have Q6:(k:Int)<(t.keys.length:Int):=by omega
    have n1:IntKind.i64.wrap ((k:Int)+1)=(k:Int)+1:=by rw[jG];have:=HKK.out.2;omega
    clear x0 x2 y0 y1 y2 y4 y7 y6 hget hform Lg hv ho1 ho2 Ua hx;generalize t.keys.getD k 0=F at*;generalize hxs:lW ((t.keys.take k).flatMap (lX t))=xs at*;have OG:=zH hxs;clear hxs;generalize hmm:((t.keys.take k).flatMap (lX t)).length=m at*;have HM:=zH hmm;clear hmm hfs;have hm1:m<3000001:=by omega
    clear hm0 hlen Z;generalize A.bx s F=bx at*
    by_cases ho:x.own≠0
    . have ho':x.own≠0:=ho
      have d1:((x.own:Int)==0)=false:=by simp;omega
      have d2:((x.own:Int) !=0)=true:=by simp;omega
      have d3:((x.own:Int)=0)=False:=by simp;omega
      clear ho'
      cases ht:x.there with
      |true=>
       by_cases hl:x.old≠0
       . have e1:((x.old:Int)==0)=false:=by simp;omega
         have e2:((x.old:Int) !=0)=true:=by simp;omega
         have e3:((x.old:Int)=0)=False:=by simp;omega
         have hfs:=HO.out.2.2.2;simp only[aV ho,aV hl,ht,if_true,if_false,Bool.false_eq_true,List.nil_append,List.append_nil,List.cons_append] at hfs;have tL:=zH hfs;clear hfs;obtain⟨ws,W0,W1,W2⟩:∃ ws:Int->Int->Int,ws (x.own:Int) 0=((af x.own 0:Nat):Int)∧ws (x.own:Int) 1=((af x.own 1:Nat):Int)∧ws (x.old:Int) 1=((af x.old 1:Nat):Int):=⟨fun a b=>if b=0 then ((af a.toNat 0:Nat):Int) else ((af a.toNat 1:Nat):Int),by simp,by simp,by simp⟩
         have SL:Hid (∀ a b:Int,((a=(x.own:Int)∧b=0)∨(a=(x.own:Int)∧b=1)∨(a=(x.old:Int)∧b=1))->∀ w,zk 85 #[zu a,I b] w fun e E=>e=.returned (I (ws a b))∧w=E):=by
          rintro a b (⟨rfl,rfl⟩|⟨rfl,rfl⟩|⟨rfl,rfl⟩) w''
          . rw[W0];exact (HS.out x.own 0 (HO.out.1.resolve_left ho) (by omega) w'')
          . rw[W1];exact (HS.out x.own 1 (HO.out.1.resolve_left ho) (by omega) w'')
          . rw[W2];exact (HS.out x.old 1 (HO.out.2.1.resolve_left hl) (by omega) w'')
         have HW:=zH (zA W0 (zA W1 W2));clear W0 W1 W2;clear ho hl;rw[ht] at OE HC;clear ht;go_wp2_with (first|(go_at_call 85;refine (SL.out _ _ (by first|exact .inl ⟨rfl,rfl⟩|exact .inr (.inl ⟨rfl,rfl⟩)|exact .inr (.inr ⟨rfl,rfl⟩)) _).mono ?_;rintro e E ⟨rfl,rfl⟩)|(refine tK _ rfl _ _ rfl w2 (by assumption) _ _ _ _ rfl (by assumption) (by omega) _ _ _ rfl ?_;intro mr gp wl ql pl;obtain⟨TZ,SS,OE⟩:=HC.out wl pl))
         go_roundw
         case rel=>
          simp only[HW.out.1,HW.out.2.1,HW.out.2.2] at ql;refine⟨k+1,by have:=HO.out.2.2.1;omega,rfl,pl,mr,gp,?_,?_⟩
          . first|(rw[tL.out,jR,HM.out];done)|(rw[tL.out,jR,HM.out];rfl)
          . rw[tL.out,jR,HM.out,jD,OG.out];simp only[List.append_assoc,List.cons_append,List.nil_append] at ql;exact ql
         case measure=>have:=HO.out.2.2.1;simp[intOf];omega
       . have e1:((x.old:Int)==0)=true:=by simp;omega
         have e2:((x.old:Int) !=0)=false:=by simp;omega
         have e3:((x.old:Int)=0)=True:=by simp;omega
         have hfs:=HO.out.2.2.2;simp only[aV ho,aR hl,ht,if_true,if_false,Bool.false_eq_true,List.nil_append,List.append_nil,List.cons_append] at hfs;have tL:=zH hfs;clear hfs;obtain⟨ws,W0,W1,W2⟩:∃ ws:Int->Int->Int,ws (x.own:Int) 0=((af x.own 0:Nat):Int)∧ws (x.own:Int) 1=((af x.own 1:Nat):Int)∧ws (x.old:Int) 1=((af x.old 1:Nat):Int):=⟨fun a b=>if b=0 then ((af a.toNat 0:Nat):Int) else ((af a.toNat 1:Nat):Int),by simp,by simp,by simp⟩
         have SL:Hid (∀ a b:Int,((a=(x.own:Int)∧b=0)∨(a=(x.own:Int)∧b=1)∨False)->∀ w,zk 85 #[zu a,I b] w fun e E=>e=.returned (I (ws a b))∧w=E):=by
          rintro a b (⟨rfl,rfl⟩|⟨rfl,rfl⟩|h) w''
          . rw[W0];exact (HS.out x.own 0 (HO.out.1.resolve_left ho) (by omega) w'')
          . rw[W1];exact (HS.out x.own 1 (HO.out.1.resolve_left ho) (by omega) w'')
          . exact h.elim
         have HW:=zH (zA W0 (zA W1 W2));clear W0 W1 W2;clear ho hl;rw[ht] at OE HC;clear ht;go_wp2_with (first|(go_at_call 85;refine (SL.out _ _ (by first|exact .inl ⟨rfl,rfl⟩|exact .inr (.inl ⟨rfl,rfl⟩)|exact .inr (.inr ⟨rfl,rfl⟩)) _).mono ?_;rintro e E ⟨rfl,rfl⟩)|(refine tK _ rfl _ _ rfl w2 (by assumption) _ _ _ _ rfl (by assumption) (by omega) _ _ _ rfl ?_;intro mr gp wl ql pl;obtain⟨TZ,SS,OE⟩:=HC.out wl pl))
         go_roundw
         case rel=>
          simp only[HW.out.1,HW.out.2.1,HW.out.2.2] at ql;refine⟨k+1,by have:=HO.out.2.2.1;omega,rfl,pl,mr,gp,?_,?_⟩
          . first|(rw[tL.out,jR,HM.out];done)|(rw[tL.out,jR,HM.out];rfl)
          . rw[tL.out,jR,HM.out,jD,OG.out];exact ql
         case measure=>have:=HO.out.2.2.1;simp[intOf];omega
          |false=>
       by_cases hl:x.old≠0
       . have e1:((x.old:Int)==0)=false:=by simp;omega
         have e2:((x.old:Int) !=0)=true:=by simp;omega
         have e3:((x.old:Int)=0)=False:=by simp;omega
         have hfs:=HO.out.2.2.2;simp only[aV ho,aV hl,ht,if_true,if_false,Bool.false_eq_true,List.nil_append,List.append_nil,List.cons_append] at hfs;have tL:=zH hfs;clear hfs;obtain⟨ws,W0,W1,W2⟩:∃ ws:Int->Int->Int,ws (x.own:Int) 0=((af x.own 0:Nat):Int)∧ws (x.own:Int) 1=((af x.own 1:Nat):Int)∧ws (x.old:Int) 1=((af x.old 1:Nat):Int):=⟨fun a b=>if b=0 then ((af a.toNat 0:Nat):Int) else ((af a.toNat 1:Nat):Int),by simp,by simp,by simp⟩
         have SL:Hid (∀ a b:Int,((a=(x.own:Int)∧b=0)∨(a=(x.own:Int)∧b=1)∨(a=(x.old:Int)∧b=1))->∀ w,zk 85 #[zu a,I b] w fun e E=>e=.returned (I (ws a b))∧w=E):=by
          rintro a b (⟨rfl,rfl⟩|⟨rfl,rfl⟩|⟨rfl,rfl⟩) w''
          . rw[W0];exact (HS.out x.own 0 (HO.out.1.resolve_left ho) (by omega) w'')
          . rw[W1];exact (HS.out x.own 1 (HO.out.1.resolve_left ho) (by omega) w'')
          . rw[W2];exact (HS.out x.old 1 (HO.out.2.1.resolve_left hl) (by omega) w'')
         have HW:=zH (zA W0 (zA W1 W2));clear W0 W1 W2;clear ho hl;rw[ht] at OE HC;clear ht;go_wp2_with (first|(go_at_call 85;refine (SL.out _ _ (by first|exact .inl ⟨rfl,rfl⟩|exact .inr (.inl ⟨rfl,rfl⟩)|exact .inr (.inr ⟨rfl,rfl⟩)) _).mono ?_;rintro e E ⟨rfl,rfl⟩)|(refine tK _ rfl _ _ rfl w2 (by assumption) _ _ _ _ rfl (by assumption) (by omega) _ _ _ rfl ?_;intro mr gp wl ql pl;obtain⟨TZ,SS,OE⟩:=HC.out wl pl))
         go_roundw
         case rel=>
          simp only[HW.out.1,HW.out.2.1,HW.out.2.2] at ql;refine⟨k+1,by have:=HO.out.2.2.1;omega,rfl,pl,mr,gp,?_,?_⟩
          . first|(rw[tL.out,jR,HM.out];done)|(rw[tL.out,jR,HM.out];rfl)
          . rw[tL.out,jR,HM.out,jD,OG.out];simp only[List.append_assoc,List.cons_append,List.nil_append] at ql;exact ql
         case measure=>have:=HO.out.2.2.1;simp[intOf];omega
       . have e1:((x.old:Int)==0)=true:=by simp;omega
         have e2:((x.old:Int) !=0)=false:=by simp;omega
         have e3:((x.old:Int)=0)=True:=by simp;omega
         have hfs:=HO.out.2.2.2;simp only[aV ho,aR hl,ht,if_true,if_false,Bool.false_eq_true,List.nil_append,List.append_nil,List.cons_append] at hfs;have tL:=zH hfs;clear hfs;obtain⟨ws,W0,W1,W2⟩:∃ ws:Int->Int->Int,ws (x.own:Int) 0=((af x.own 0:Nat):Int)∧ws (x.own:Int) 1=((af x.own 1:Nat):Int)∧ws (x.old:Int) 1=((af x.old 1:Nat):Int):=⟨fun a b=>if b=0 then ((af a.toNat 0:Nat):Int) else ((af a.toNat 1:Nat):Int),by simp,by simp,by simp⟩
         have SL:Hid (∀ a b:Int,((a=(x.own:Int)∧b=0)∨(a=(x.own:Int)∧b=1)∨False)->∀ w,zk 85 #[zu a,I b] w fun e E=>e=.returned (I (ws a b))∧w=E):=by
          rintro a b (⟨rfl,rfl⟩|⟨rfl,rfl⟩|h) w''
          . rw[W0];exact (HS.out x.own 0 (HO.out.1.resolve_left ho) (by omega) w'')
          . rw[W1];exact (HS.out x.own 1 (HO.out.1.resolve_left ho) (by omega) w'')
          . exact h.elim
         have HW:=zH (zA W0 (zA W1 W2));clear W0 W1 W2;clear ho hl;rw[ht] at OE HC;clear ht;go_wp2_with (first|(go_at_call 85;refine (SL.out _ _ (by first|exact .inl ⟨rfl,rfl⟩|exact .inr (.inl ⟨rfl,rfl⟩)|exact .inr (.inr ⟨rfl,rfl⟩)) _).mono ?_;rintro e E ⟨rfl,rfl⟩)|(refine tK _ rfl _ _ rfl w2 (by assumption) _ _ _ _ rfl (by assumption) (by omega) _ _ _ rfl ?_;intro mr gp wl ql pl;obtain⟨TZ,SS,OE⟩:=HC.out wl pl))
         go_roundw
         case rel=>
          simp only[HW.out.1,HW.out.2.1,HW.out.2.2] at ql;refine⟨k+1,by have:=HO.out.2.2.1;omega,rfl,pl,mr,gp,?_,?_⟩
          . first|(rw[tL.out,jR,HM.out];done)|(rw[tL.out,jR,HM.out];rfl)
          . rw[tL.out,jR,HM.out,jD,OG.out];simp only[List.append_assoc,List.cons_append,List.nil_append] at ql;exact ql
         case measure=>have:=HO.out.2.2.1;simp[intOf];omega
    . have d1:((x.own:Int)==0)=true:=by simp;omega
      have d2:((x.own:Int) !=0)=false:=by simp;omega
      have d3:((x.own:Int)=0)=True:=by simp;omega
      by_cases hl:x.old≠0
      . have e1:((x.old:Int)==0)=false:=by simp;omega
        have e2:((x.old:Int) !=0)=true:=by simp;omega
        have e3:((x.old:Int)=0)=False:=by simp;omega
        have hfs:=HO.out.2.2.2;simp only[aR ho,aV hl,List.nil_append,List.append_nil,List.cons_append] at hfs;have tL:=zH hfs;clear hfs;obtain⟨ws,W0,W1,W2⟩:∃ ws:Int->Int->Int,ws (x.own:Int) 0=((af x.own 0:Nat):Int)∧ws (x.own:Int) 1=((af x.own 1:Nat):Int)∧ws (x.old:Int) 1=((af x.old 1:Nat):Int):=⟨fun a b=>if b=0 then ((af a.toNat 0:Nat):Int) else ((af a.toNat 1:Nat):Int),by simp,by simp,by simp⟩
        have SL:Hid (∀ a b:Int,(False∨False∨(a=(x.old:Int)∧b=1))->∀ w,zk 85 #[zu a,I b] w fun e E=>e=.returned (I (ws a b))∧w=E):=by
         rintro a b (h|h|⟨rfl,rfl⟩) w''
         . exact h.elim
         . exact h.elim
         . rw[W2];exact (HS.out x.old 1 (HO.out.2.1.resolve_left hl) (by omega) w'')
        have HW:=zH (zA W0 (zA W1 W2));clear W0 W1 W2;clear ho hl;go_wp2_with (first|(go_at_call 85;refine (SL.out _ _ (by first|exact .inl ⟨rfl,rfl⟩|exact .inr (.inl ⟨rfl,rfl⟩)|exact .inr (.inr ⟨rfl,rfl⟩)) _).mono ?_;rintro e E ⟨rfl,rfl⟩)|(refine tK _ rfl _ _ rfl w2 (by assumption) _ _ _ _ rfl (by assumption) (by omega) _ _ _ rfl ?_;intro mr gp wl ql pl;obtain⟨TZ,SS,OE⟩:=HC.out wl pl))
        go_roundw
        case rel=>
         simp only[HW.out.1,HW.out.2.1,HW.out.2.2] at ql;refine⟨k+1,by have:=HO.out.2.2.1;omega,rfl,pl,mr,gp,?_,?_⟩
         . first|(rw[tL.out,jR,HM.out];done)|(rw[tL.out,jR,HM.out];rfl)
         . rw[tL.out,jR,HM.out,jD,OG.out];exact ql
        case measure=>have:=HO.out.2.2.1;simp[intOf];omega
      . have e1:((x.old:Int)==0)=true:=by simp;omega
        have e2:((x.old:Int) !=0)=false:=by simp;omega
        have e3:((x.old:Int)=0)=True:=by simp;omega
        have hfs:=HO.out.2.2.2;simp only[aR ho,aR hl,List.nil_append,List.append_nil,List.cons_append] at hfs;have tL:=zH hfs;clear hfs;clear ho hl;go_wp2_with fail
        go_roundw
        case rel=>
         refine⟨k+1,by have:=HO.out.2.2.1;omega,rfl,hb,av,cap,?_,?_⟩
         . first|(rw[tL.out,HM.out];done)|(rw[tL.out,HM.out];rfl)
         . rw[tL.out,HM.out,OG.out];exact aU
        case measure=>have:=HO.out.2.2.1;simp[intOf];omega
  . obtain rfl:k=t.keys.length:=by omega
    rw[List.take_length] at aU ⊢;obtain⟨x0,x1,x2,x4,x7,x6,_⟩:=HB2.out A2 w2 H2.out.1 H2.out.2.1 H2.out.2.2.1 H2.out.2.2.2.1 wr hb;have HE:=zH (zA (Wi.out A2 w2 H2.out.1 H2.out.2.2.1 wr av _ cap hb aU) (Grow.below (L:=A2.L) hb));clear aU hb hlt Z hm0;generalize (t.keys.flatMap (lX t)).length=m at*;go_wp2_with (go_at_call 128;refine HE.out.1.mono ?_;rintro e w4 ⟨A3,v,rfl,p1,p2,p3,p4⟩);go_ret;exact⟨A3,v,rfl,p1,(H2.out.2.1.trans HE.out.2).trans p2,H2.out.2.2.1.trans p3,p4⟩
theorem kW.Lh {L L':dE} {w:World} {v:Value} {xs:List Value} (h:kW L w v xs) {b:Nat} (hL:∀ g,g≠b->L' g=L g) (hb:∀ cs,w.heap[b]? ≠some (.cells cs 152)):kW L' w v xs:=by
 obtain⟨⟨ad,n,cap,rfl,e2,e3,e4,e5⟩,h2⟩:=h;refine⟨⟨ad,n,cap,rfl,e2,e3,e4,?_⟩,h2⟩
 rcases e5 with h0|⟨g,off,rfl,e7,e8,e9⟩
 . exact .inl h0
 . rcases h2 g off n cap rfl with h0|⟨cs,hc⟩
   . exact .inl h0
   . refine .inr ⟨g,off,rfl,?_,e8,e9⟩
     rw[hL g (by rintro rfl;exact hb _ hc)];exact e7
theorem rC.Lh {L L':dE} {w:World} {b:Nat} (hL:∀ g,g≠b->L' g=L g) (hb:∀ cs,w.heap[b]? ≠some (.cells cs 152)):∀ {l:List Ev} {xs:List Value},rC L w l xs->rC L' w l xs
 |[],_,h=>h
 |_::_,_,⟨vp,ys,h1,h2,h3⟩=>⟨vp,ys,h1,h2.Lh hL hb,rC.Lh hL hb h3⟩
theorem rC.lab {L:dE} {w:World} {b:Nat} {cs:Array Value} {T:TypeId} {l:List Ev} {xs:List Value} (h:rC L w l xs) (he:w.heap[b]? =some (.cells cs T)) (hT:T≠152) (r:bU):rC (kD L b r) w l xs:=
 h.Lh (fun g hg=>fF hg) (fun cs' hc=>by rw[he] at hc;simp at hc;exact hT hc.2)
theorem rC.Q9 {L:dE} {w:World} {b:Nat} {es:Array MapEntry} {k:Nat} {l:List Ev} {xs:List Value} (h:rC L w l xs) (he:w.heap[b]? =some (.map es k)) (r:bU):rC (kD L b r) w l xs:=
 h.Lh (fun g hg=>fF hg) (fun cs' hc=>by rw[he] at hc;simp at hc)
theorem aC.Dx {A:au} {D:St} {w Y:World} (h:aC A D Y) (g0:Grow A.L w A.L Y) {s b m:Nat} (Tn:A.L b=none) (hfm:A.L m=none) (hs:s<8) (hb:w.heap.size<=b) (hm:w.heap.size<=m) (Vj:b≠m) (t:bL) (h1:t.keys=[]) (h2:t.cells=[]) (h3:t.reads=[]) (h4:t.aP=[])
 (he:Y.heap[b]? =some (.cells (eO (A.gB s b m) s t).toArray 131)) (hmap:Y.heap[m]? =some (.map #[] 0)) (hn:D.aj.getD s none=none):
 aC (A.gB s b m) (D.bK s t) (Y.setCell (J A.H (5+s)) (R b 0))∧Grow A.L w (A.gB s b m).L (Y.setCell (J A.H (5+s)) (R b 0)):=by
 have hlt:b<Y.heap.size:=fA he;have Wj:m<Y.heap.size:=fA hmap;have n8:=h.n8;have hn2:=hn;rw[mM] at hn2;have k1:=h.mem.Cy (.fw s) Tn (.obj b (eO (A.gB s b m) s t) 131) ⟨kU _ _ _,he⟩ hlt;have k2:=k1.Cy (.map s) (b:=m) ((fF (Ne.symm Vj)).trans hfm) (.map m [] 0) ⟨kU _ _ _,hmap⟩ Wj;have hE:(iF (iF (bq A D) (.fw s) (.obj b (eO (A.gB s b m) s t) 131)) (.map s) (.map m [] 0)) .df=.obj A.H (oD A D) 111:=rfl;have k3:=k2.put .df hE (5+s) (R b 0);have g:Grow A.L w (A.gB s b m).L (Y.setCell (J A.H (5+s)) (R b 0)):=
  ((g0.kD hb _).kD hm _).trans (k2.di hE (5+s) _)
 have k4 : Holds (A.gB s b m).L (Y.setCell ⟨A.H, 5 + s, none⟩ (R b 0)) (fun q => match q with
     |.keys k=>if k=s then .own (.slice none 0 0) 3 1 0 [] else bq A D (.keys k)
     |.reads k=>if k=s then .own (.slice none 0 0) 250 3 0 [] else bq A D (.reads k)
     |.aP k=>if k=s then .own (.slice none 0 0) 3 1 0 [] else bq A D (.aP k)
     |q=>iF (iF (iF (bq A D) (.fw s) (.obj b (eO (A.gB s b m) s t) 131)) (.map s) (.map m [] 0)) .df (.obj A.H ((oD A D).set (5+s) (R b 0)) 111) q):=by
  refine⟨fun q=>?_,k3.fresh⟩;have k:=k3.all q
  cases q<;>first|exact k|skip
  all_goals
   rename_i j
   by_cases hj:j=s
   . subst hj
     simp only[aV];exact⟨World.ownsRow_nil _ 0 _ _,fun g hg=>by cases hg⟩
   . simp only[aR hj]
     simp[iF] at k;exact k
 refine⟨⟨k4.of_eq fun q=>?_,((h.ev.lab he (by decide) (.fw s)).Q9 hmap (.map s)).grow (k2.di hE (5+s) _),h.sl,h.nw,h.nt,h.nv,by simpa [St.bK] using h.n8,h.nc⟩,g⟩;have gt:∀ k,(D.bK s t).aj.getD k none=if k=s then some t else D.aj.getD k none:=fun k=>dC (by omega) t k
 have tp:∀ k,(A.gB s b m).tp (D.bK s t) k=if k=s then .pointer (some (J b 0)) else A.tp D k:=by
  intro k;unfold au.tp;rw[gt];by_cases Z:k=s
  . subst Z;simp[au.gB]
  . simp[Z,au.gB]
 cases hq:q.tx with
 |none=>
  cases q<;>first|rfl|(simp[bU.tx] at hq;done)|skip
  simp only[iF,aV,bq,oD,tp]
  match s,hs with
  |0,_|1,_|2,_|3,_|4,_|5,_|6,_|7,_=>rfl
 |some k=>
  rw[iH _ _ hq,gt]
  by_cases Z:k=s
  . subst Z
    rw[aV rfl]
    cases q<;>simp[bU.tx] at hq<;>subst hq<;>simp[gT,iF,au.gB,kS,h1,h2,h3,h4,gY,jW,bL.cell,bq,hn2]
  . rw[aR Z,<-iH _ D hq]
    have:=mU (A:=A) (A':={A.gB s b m with bt:=A.bt}) (s:=s) ⟨rfl,rfl,rfl,rfl,rfl,rfl,rfl,rfl,rfl,rfl,rfl,rfl,rfl,rfl,rfl,rfl,rfl,fun k Z=>aR Z,fun _ _=>rfl,fun k Z=>bH _ _ Z,fun k Z=>bH _ _ Z,fun k Z=>bH _ _ Z,fun k Z=>aR Z,fun k Z=>aR Z⟩ D (q:=q) (by rw[hq];simpa using Z);have e2:bq (A.gB s b m) D q=bq {A.gB s b m with bt:=A.bt} D q:=by
     cases q<;>simp[bU.tx] at hq<;>subst hq<;>simp[bq,au.gB,Z,eO,gY]
    rw[e2,this]
    cases q<;>simp[bU.tx] at hq<;>subst hq<;>simp[iF,Z]
structure kK (A A':au):Prop where
 ex:∃ L v c f m hc g cs,A'={A with L:=L,dX:=v,iV:=c,eZ:=f,mp:=m,hcut:=hc,fP:=g,dV:=cs}
 mp:A'.mp=A.mp
theorem kK.refl (A:au):kK A A:=⟨⟨_,_,_,_,_,_,_,_,rfl⟩,rfl⟩
theorem kK.trans {A B C:au} (h:kK A B) (k:kK B C):kK A C:=by
 obtain⟨⟨L,v,c,f,m,hc,gc,cs,rfl⟩,h2⟩:=h;obtain⟨⟨L',v',c',f',m',hc',gc',cs',rfl⟩,k2⟩:=k;exact⟨⟨_,_,_,_,_,_,_,_,rfl⟩,k2.trans h2⟩
def rV (A:au) (D:St) (w:World):Prop:=iW A D.cut
def tN (A:au) (D:St) (w:World) (r:St×Bool):Ending->World->Prop:=fun e E=>e=.returned (.bool r.2)∧∃ A',kK A A'∧aC A' r.1 E∧Grow A.L w A'.L E∧jm A'.H A'.L E (A'.sv r.1.sw) r.1.sw∧(rV A D w->rV A' r.1 E)
theorem aC.eT (h:aC A D w) (v:Value) (x:Option S) (hs:jm A.H A.L w v x):
 ∃ A',kK A A'∧A'.Ny=A.Ny∧aC A' {D with sw:=x} (w.setCell (J A.H 25) v)∧Grow A.L w A'.L (w.setCell (J A.H 25) v)∧jm A'.H A'.L (w.setCell (J A.H 25) v) (A'.sv x) x:=by
 cases x with
 |none=>
  have e:v=.nilFunc:=hs;subst e;obtain⟨r,g⟩:=h.Ky;exact⟨A,kK.refl A,rfl,r,g,rfl⟩
 |some k=>
  obtain⟨r,g⟩:=h.fK v k;exact⟨{A with dX:=v},⟨⟨_,_,_,_,_,_,_,_,rfl⟩,rfl⟩,rfl,r,g,hs.grow g⟩
theorem rV.keep {A A':au} {D bB:St} {w E:World} (h:rV A D w) (e:A'.Ny=A.Ny) (ec:bB.cut=D.cut) (g:Grow A.L w A'.L E):rV A' bB E:=by
 have c1:A'.iV=A.iV:=congrArg (·.1) e;have c2:A'.hcut=A.hcut:=congrArg (·.2.1) e;have c3:A'.fP=A.fP:=congrArg (·.2.2.1) e;have c4:A'.dV=A.dV:=congrArg (·.2.2.2) e;unfold rV iW at*;rw[ec,c1,c2,c3,c4];exact h
theorem jm.form {e:Nat} {L:dE} {w:World} {v:Value}:∀ {k:S},jm e L w v (some k)->∃ fv fb fc,v=.func (.func fv) fb fc
 |.now,h=>⟨_,_,_,h⟩
 |.live _,h=>let ⟨_,_,e,_⟩:=h;⟨_,_,_,e⟩
 |.head _,h=>let ⟨_,_,e,_⟩:=h;⟨_,_,_,e⟩
 |.visit _ _ _,h=>let ⟨_,_,_,_,e,_⟩:=h;⟨_,_,_,e⟩
 |.maker _ _ _ _,h=>let ⟨_,_,_,_,_,e,_⟩:=h;⟨_,_,_,e⟩
 |.dD _ _ _ _,h=>let ⟨_,_,_,_,_,e,_⟩:=h;⟨_,_,_,e⟩
 |.on _ _,h=>let ⟨_,_,_,e,_⟩:=h;⟨_,_,_,e⟩
 |.unlink _ _ _,h=>let ⟨_,_,_,_,e,_⟩:=h;⟨_,_,_,e⟩
 |.cut _ _ _ _,h=>let ⟨_,_,_,_,_,e,_⟩:=h;⟨_,_,_,e⟩
theorem Ra (hR:aC A D w) (F:Nat) (Z:F<=63) (aL:D.count<4000000000000000000) (b0:Nat) (b1:Nat) (B0:aN A.L w b0 (R A.H 0)) (B1:aN A.L w b1 (I F)):
 zk 159 #[R b0 0,R b1 0] w (tN A D w (D.aG (.head F))):=by
 have c0:=B0.cell;have c1:=B1.cell;have e2:=hR.z2;have n1:IntKind.i64.wrap (9+(F:Int))=9+(F:Int):=by rw[jG];omega
 have HL:Hid (∀ E,aC A D E->zk 42 #[R A.ba 0,I (9+(F:Int))] E (vC A E D.tick (zu (D.word (9+F):Int)))):=fun E r=>iK r (9+F) (9+(F:Int)) (by omega) (by rw[r.nw];omega) aL
 have nT:Hid (aC A D w.drew):=hR.drew;have HKK:Hid (∀ E,aC A D.tick E->Grow A.L w A.L E->zS E b0 0 A.H 0∧zT E b1 0 F∧zS E A.H 2 A.ba 0):=fun E r g=>⟨(B0.grow g).cell,(B1.grow g).cell,r.df 2 rfl⟩
 have vH:Hid (∀ E x,aC A D.tick E->Grow A.L w A.L E->zS (E.setCell (J A.H 25) x) b0 0 A.H 0∧zT (E.setCell (J A.H 25) x) b1 0 F∧zS (E.setCell (J A.H 25) x) A.H 2 A.ba 0):=fun E x r g=>let ⟨r',g'⟩:=r.fK x .now;⟨(B0.grow (g.trans g')).cell,(B1.grow (g.trans g')).cell,r'.df 2 rfl⟩
 have HM:Hid (∀ E,aC A D.tick E->zk 160 #[R A.H 0,I F,zu 0,zu (D.word (9+F):Int)] E (iL A D.tick E (iG F 0 (D.word (9+F))))):=fun E r=>pF r F 0 (D.word (9+F)) Z
 have HG:=zG A.L w;clear hR aL B0 B1;have jK:D.aG (.head F)=({D.tick with sw:=iG F 0 (D.word (9+F))},false):=rfl;rw[jK];generalize iG F 0 (D.word (9+F))=kk at*;generalize (D.word (9+F):Int)=hd at*
 cases kk with
 |none=>
  go_enter Tryz.func159,Tryz.ntmps159;go_wp2_with fail
  go_region_held3 (fun E=>zS E b0 0 A.H 0∧zT E b1 0 F∧zS E A.H 2 A.ba 0)
   (first|exact⟨c0,c1,e2⟩|assumption|go_keep|exact HKK.out _ (by assumption) (by assumption)|exact vH.out _ _ (by assumption) (by assumption))
   (first|(go_at_call 42;refine (HL.out _ nT.out).mono ?_;rintro e Y ⟨rfl,q1,q2⟩;have q4:=HG.out.trans q2)|(go_at_call 160;refine (HM.out _ (by assumption)).mono ?_;rintro e w2 ⟨v,rfl,p1,p2,p3⟩;have e3:v=.nilFunc:=p3;subst e3;obtain⟨vo,y25⟩:∃ vo,w2.cell? (J A.H 25)=some vo:=⟨_,p1.df 25 (v:=A.sv D.tick.sw) rfl⟩;have z25:=p1.iC 25;have q5:=q4.trans p2;have HP:=zH p3;clear p2 p3))
  go_wp2_with fail;go_ret;obtain⟨A',a1,a2,a3,a4,a5⟩:=p1.eT _ _ HP.out;exact⟨rfl,A',a1,a3,q5.trans a4,a5,fun hc=>hc.keep a2 rfl (q5.trans a4)⟩
 |some kx=>
  go_enter Tryz.func159,Tryz.ntmps159;go_wp2_with fail
  go_region_held3 (fun E=>zS E b0 0 A.H 0∧zT E b1 0 F∧zS E A.H 2 A.ba 0)
   (first|exact⟨c0,c1,e2⟩|assumption|go_keep|exact HKK.out _ (by assumption) (by assumption)|exact vH.out _ _ (by assumption) (by assumption))
   (first|(go_at_call 42;refine (HL.out _ nT.out).mono ?_;rintro e Y ⟨rfl,q1,q2⟩;have q4:=HG.out.trans q2)|(go_at_call 160;refine (HM.out _ (by assumption)).mono ?_;rintro e w2 ⟨v,rfl,p1,p2,p3⟩;obtain⟨fv,fb,fc,e3⟩:=jm.form p3;subst e3;obtain⟨vo,y25⟩:∃ vo,w2.cell? (J A.H 25)=some vo:=⟨_,p1.df 25 (v:=A.sv D.tick.sw) rfl⟩;have z25:=p1.iC 25;have q5:=q4.trans p2;have HP:=zH p3;clear p2 p3))
  go_wp2_with fail;go_ret;obtain⟨A',a1,a2,a3,a4,a5⟩:=p1.eT _ _ HP.out;exact⟨rfl,A',a1,a3,q5.trans a4,a5,fun hc=>hc.keep a2 rfl (q5.trans a4)⟩
theorem Wl (hR:aC A D w) (F G:Nat) (Z:F<=63) (hv:VL D G) (aL:D.count<4000000000000000000) (b0:Nat) (b1:Nat) (b2:Nat) (B0:aN A.L w b0 (R A.H 0)) (B1:aN A.L w b1 (I F)) (B2:aN A.L w b2 (zu G)):
 zk 209 #[R b0 0,R b1 0,R b2 0] w (tN A D w (D.aG (.on F G))):=by
 have c0:=B0.cell;have c1:=B1.cell;have c2:=B2.cell;have e2:=hR.z2;have hsl:=hR.sl;have HS:=zH (eQ G 2 2 rfl hv.lo (by have:=hv.hi;omega) hv.u (by omega));have HL:Hid (∀ E,aC A D E->zk 42 #[R A.ba 0,I (((af G 2:Nat):Int))] E (vC A E D.tick (zu (D.word (af G 2):Int)))):=fun E r=>iK r (af G 2) (((af G 2:Nat):Int)) rfl (dO r hv.lo hv.hi (by omega)) aL
 have nT:Hid (aC A D w.drew):=hR.drew;have HKK:Hid (∀ E,aC A D.tick E->Grow A.L w A.L E->zS E b0 0 A.H 0∧zT E b1 0 F∧zV E b2 0 G∧zS E A.H 2 A.ba 0):=fun E r g=>⟨(B0.grow g).cell,(B1.grow g).cell,(B2.grow g).cell,r.df 2 rfl⟩
 have vH:Hid (∀ E x,aC A D.tick E->Grow A.L w A.L E->zS (E.setCell (J A.H 25) x) b0 0 A.H 0∧zT (E.setCell (J A.H 25) x) b1 0 F∧zV (E.setCell (J A.H 25) x) b2 0 G∧zS (E.setCell (J A.H 25) x) A.H 2 A.ba 0):=fun E x r g=>let ⟨r',g'⟩:=r.fK x .now;⟨(B0.grow (g.trans g')).cell,(B1.grow (g.trans g')).cell,(B2.grow (g.trans g')).cell,r'.df 2 rfl⟩
 have HM:Hid (∀ E,aC A D.tick E->zk 160 #[R A.H 0,I F,zu G,zu (D.word (af G 2):Int)] E (iL A D.tick E (iG F G (D.word (af G 2))))):=fun E r=>pF r F G (D.word (af G 2)) Z
 have HG:=zG A.L w;clear hR aL B0 B1 B2;have jK:D.aG (.on F G)=({D.tick with sw:=iG F G (D.word (af G 2))},false):=rfl;rw[jK];clear hv hsl;generalize iG F G (D.word (af G 2))=kk at*;generalize (D.word (af G 2):Int)=hd at*;generalize ((af G 2:Nat):Int)=ix at*
 cases kk with
 |none=>
  go_enter Tryz.func209,Tryz.ntmps209;go_wp2_with fail
  go_region_held3 (fun E=>zS E b0 0 A.H 0∧zT E b1 0 F∧zV E b2 0 G∧zS E A.H 2 A.ba 0)
   (first|exact⟨c0,c1,c2,e2⟩|assumption|go_keep|exact HKK.out _ (by assumption) (by assumption)|exact vH.out _ _ (by assumption) (by assumption))
   (first|(go_at_call 42;refine (HL.out _ nT.out).mono ?_;rintro e Y ⟨rfl,q1,q2⟩;have q4:=HG.out.trans q2)|(go_at_call 85;refine (HS.out _).mono ?_;rintro e w9 ⟨rfl,rfl⟩)|(go_at_call 160;refine (HM.out _ (by assumption)).mono ?_;rintro e w2 ⟨v,rfl,p1,p2,p3⟩;have e3:v=.nilFunc:=p3;subst e3;obtain⟨vo,y25⟩:∃ vo,w2.cell? (J A.H 25)=some vo:=⟨_,p1.df 25 (v:=A.sv D.tick.sw) rfl⟩;have z25:=p1.iC 25;have q5:=q4.trans p2;have HP:=zH p3;clear p2 p3))
  go_wp2_with fail;go_ret;obtain⟨A',a1,a2,a3,a4,a5⟩:=p1.eT _ _ HP.out;exact⟨rfl,A',a1,a3,q5.trans a4,a5,fun hc=>hc.keep a2 rfl (q5.trans a4)⟩
 |some kx=>
  go_enter Tryz.func209,Tryz.ntmps209;go_wp2_with fail
  go_region_held3 (fun E=>zS E b0 0 A.H 0∧zT E b1 0 F∧zV E b2 0 G∧zS E A.H 2 A.ba 0)
   (first|exact⟨c0,c1,c2,e2⟩|assumption|go_keep|exact HKK.out _ (by assumption) (by assumption)|exact vH.out _ _ (by assumption) (by assumption))
   (first|(go_at_call 42;refine (HL.out _ nT.out).mono ?_;rintro e Y ⟨rfl,q1,q2⟩;have q4:=HG.out.trans q2)|(go_at_call 85;refine (HS.out _).mono ?_;rintro e w9 ⟨rfl,rfl⟩)|(go_at_call 160;refine (HM.out _ (by assumption)).mono ?_;rintro e w2 ⟨v,rfl,p1,p2,p3⟩;obtain⟨fv,fb,fc,e3⟩:=jm.form p3;subst e3;obtain⟨vo,y25⟩:∃ vo,w2.cell? (J A.H 25)=some vo:=⟨_,p1.df 25 (v:=A.sv D.tick.sw) rfl⟩;have z25:=p1.iC 25;have q5:=q4.trans p2;have HP:=zH p3;clear p2 p3))
  go_wp2_with fail;go_ret;obtain⟨A',a1,a2,a3,a4,a5⟩:=p1.eT _ _ HP.out;exact⟨rfl,A',a1,a3,q5.trans a4,a5,fun hc=>hc.keep a2 rfl (q5.trans a4)⟩
theorem Li (hR:aC A D w) (F ak G:Nat) (hv:VL D G) (aL:D.count<4000000000000000000) (b0:Nat) (b1:Nat) (b2:Nat) (b3:Nat) (B0:aN A.L w b0 (R A.H 0)) (B1:aN A.L w b1 (zu G)) (B2:aN A.L w b2 (I F)) (B3:aN A.L w b3 (zu ak)):
 zk 207 #[R b0 0,R b1 0,R b2 0,R b3 0] w (tN A D w (D.aG (.unlink F ak G))):=by
 have c0:=B0.cell;have c1:=B1.cell;have c2:=B2.cell;have c3:=B3.cell;have e2:=hR.z2;have hsl:=hR.sl;have HS:=zH (eQ G 2 2 rfl hv.lo (by have:=hv.hi;omega) hv.u (by omega));have HL:Hid (∀ E,aC A D E->zk 42 #[R A.ba 0,I (((af G 2:Nat):Int))] E (vC A E D.tick (zu (D.word (af G 2):Int)))):=fun E r=>iK r (af G 2) (((af G 2:Nat):Int)) rfl (dO r hv.lo hv.hi (by omega)) aL
 have nT:Hid (aC A D w.drew):=hR.drew;have HKK:Hid (∀ E,aC A D.tick E->Grow A.L w A.L E->zS E b0 0 A.H 0∧zV E b1 0 G∧zT E b2 0 F∧zV E b3 0 ak∧zS E A.H 2 A.ba 0):=fun E r g=>⟨(B0.grow g).cell,(B1.grow g).cell,(B2.grow g).cell,(B3.grow g).cell,r.df 2 rfl⟩
 have vH:Hid (∀ E x,aC A D.tick E->Grow A.L w A.L E->zS (E.setCell (J A.H 25) x) b0 0 A.H 0∧zV (E.setCell (J A.H 25) x) b1 0 G∧zT (E.setCell (J A.H 25) x) b2 0 F∧zV (E.setCell (J A.H 25) x) b3 0 ak∧zS (E.setCell (J A.H 25) x) A.H 2 A.ba 0):=fun E x r g=>let ⟨r',g'⟩:=r.fK x .now;⟨(B0.grow (g.trans g')).cell,(B1.grow (g.trans g')).cell,(B2.grow (g.trans g')).cell,(B3.grow (g.trans g')).cell,r'.df 2 rfl⟩
 have HM:Hid (∀ E,aC A D.tick E->zk 208 #[R A.H 0,I F,zu ak,zu G,zu (D.word (af G 2):Int)] E (iL A D.tick E (some (.cut F ak G (D.word (af G 2)))))):=fun E r=>La r F ak G (D.word (af G 2))
 have HG:=zG A.L w;clear hR aL B0 B1 B2 B3;have jK:D.aG (.unlink F ak G)=({D.tick with sw:=some (.cut F ak G (D.word (af G 2)))},true):=rfl;rw[jK];clear hv hsl;generalize hkk:S.cut F ak G (D.word (af G 2))=kk at*;clear hkk;generalize (D.word (af G 2):Int)=hd at*;generalize ((af G 2:Nat):Int)=ix at*;go_enter Tryz.func207,Tryz.ntmps207;go_wp2_with fail
 go_region_held3 (fun E=>zS E b0 0 A.H 0∧zV E b1 0 G∧zT E b2 0 F∧zV E b3 0 ak∧zS E A.H 2 A.ba 0)
  (first|exact⟨c0,c1,c2,c3,e2⟩|assumption|go_keep|exact HKK.out _ (by assumption) (by assumption))
  (first|(go_at_call 85;refine (HS.out _).mono ?_;rintro e w9 ⟨rfl,rfl⟩)|(go_at_call 42;refine (HL.out _ nT.out).mono ?_;rintro e Y ⟨rfl,q1,q2⟩;have q4:=HG.out.trans q2))
 obtain⟨d0,d1,d2,d3,d9⟩:=HKK.out _ q1 q4;have uK:=zH q1.drew;have Bq:=zH (q4.trans (Grow.drew _ _));go_wp2_with fail
 go_region_held3 (fun E=>zS E b0 0 A.H 0∧zV E b1 0 G∧zT E b2 0 F∧zV E b3 0 ak∧zS E A.H 2 A.ba 0)
  (first|exact⟨d0,d1,d2,d3,d9⟩|assumption|go_keep|exact HKK.out _ (by assumption) (by assumption)|exact vH.out _ _ (by assumption) (by assumption))
  (first|(go_at_call 208;refine (HM.out _ uK.out).mono ?_;rintro e w2 ⟨v,rfl,p1,p2,p3⟩;obtain⟨fv,fb,fc,e3⟩:=jm.form p3;subst e3;obtain⟨vo,y25⟩:∃ vo,w2.cell? (J A.H 25)=some vo:=⟨_,p1.df 25 (v:=A.sv D.tick.sw) rfl⟩;have z25:=p1.iC 25;have q5:=Bq.out.trans p2;have HP:=zH p3;clear p2 p3))
 go_wp2_with fail;go_ret;obtain⟨A',a1,a2,a3,a4,a5⟩:=p1.eT _ _ HP.out;exact⟨rfl,A',a1,a3,q5.trans a4,a5,fun hc=>hc.keep a2 rfl (q5.trans a4)⟩
theorem Dy (b x low:Nat) (hx:x<18446744073709551616) (w:World):zk 199 #[zu b,zu x,zu low] w fun e E=>e=.returned (.bool (dD x low))∧Below w.heap.size w E:=by
 have HR:=zH (rQ x hx);unfold dD;generalize (rd x).1=k at*;generalize (rd x).2=n at*;have hk1:((k:Int)=1)=(k=1):=by simp;omega
 by_cases h1:k=1
 . have f1:((k:Int)=1)=True:=by simp;omega
   have f2:((k:Int)==1)=true:=by simp;omega
   have f3:(k==1)=true:=by simp;omega
   by_cases h2:1<=n
   . have g1:((1:Int)<=(n:Int))=True:=by simp;omega
     have g2:decide ((1:Int)<=(n:Int))=true:=by simp;omega
     have g3:decide (1<=n)=true:=by simp;omega
     by_cases h3:n<=low
     . have k1:((n:Int)<=(low:Int))=True:=by simp;omega
       have k2:decide ((n:Int)<=(low:Int))=true:=by simp;omega
       have k3:decide (n<=low)=true:=by simp;omega
       rw[f3,g3,k3];clear h1 h2 h3 hk1 hx;go_enter Tryz.func199,Tryz.ntmps199;go_wp2_with (go_at_call 108;refine (HR.out _).mono ?_;rintro e Y ⟨rfl,hb⟩;have HB:=zH hb;clear hb);go_ret;exact⟨rfl,HB.out.alloc HB.out.size _⟩
     . have k1:((n:Int)<=(low:Int))=False:=by simp;omega
       have k2:decide ((n:Int)<=(low:Int))=false:=by simp;omega
       have k3:decide (n<=low)=false:=by simp;omega
       rw[f3,g3,k3];clear h1 h2 h3 hk1 hx;go_enter Tryz.func199,Tryz.ntmps199;go_wp2_with (go_at_call 108;refine (HR.out _).mono ?_;rintro e Y ⟨rfl,hb⟩;have HB:=zH hb;clear hb);go_ret;exact⟨rfl,HB.out.alloc HB.out.size _⟩
   . have g1:((1:Int)<=(n:Int))=False:=by simp;omega
     have g2:decide ((1:Int)<=(n:Int))=false:=by simp;omega
     have g3:decide (1<=n)=false:=by simp;omega
     rw[f3,g3];clear h1 h2 hk1 hx;go_enter Tryz.func199,Tryz.ntmps199;go_wp2_with (go_at_call 108;refine (HR.out _).mono ?_;rintro e Y ⟨rfl,hb⟩;have HB:=zH hb;clear hb);go_ret;exact⟨rfl,HB.out.alloc HB.out.size _⟩
 . have f1:((k:Int)=1)=False:=by simp;omega
   have f2:((k:Int)==1)=false:=by simp;omega
   have f3:(k==1)=false:=by simp;omega
   rw[f3];clear h1 hk1 hx;go_enter Tryz.func199,Tryz.ntmps199;go_wp2_with (go_at_call 108;refine (HR.out _).mono ?_;rintro e Y ⟨rfl,hb⟩;have HB:=zH hb;clear hb);go_ret;exact⟨rfl,HB.out.alloc HB.out.size _⟩
theorem pI (hR:aC A D w) (cb dl:Nat) (hd:D.count=cb+dl) (hc:D.count<4000000000000000000) (hlk:D.aI<1000000000000000000) (hdl:dl<1000000) (b0 b1:Nat) (B0:aN A.L w b0 (R A.H 0)) (B1:aN A.L w b1 (I cb)):
 CallsD Tryz.prog 72 #[R b0 0,R b1 0] .returning w fun e u E=>e=.returned (.tuple #[])∧u=.returning∧aC A {D with aI:=D.aI+dl} E∧Grow A.L w A.L E:=by
 have c0:=B0.cell;have c1:=B1.cell;have e2:=hR.z2;have e23:w.cell? (J A.H 23)=zt (D.aI:Int):=hR.df 23 rfl;have n1:IntKind.i64.wrap (((cb+dl:Nat):Int) - (cb:Int))=(dl:Int):=by rw[jG];omega
 have n2:IntKind.i64.wrap ((D.aI:Int)+(dl:Int))=((D.aI+dl:Nat):Int):=by rw[jG];omega
 have HC:=zH ((iX hR.drew hc).mono (fun e w9 h=>(⟨h.1,h.2.symm⟩:e=_∧w9=w.drew)));rw[hd] at HC;have HL:=zH (hR.drew.sO (D.aI+dl));have HR:=zH hR;clear hR hd hc hlk hdl B0 B1;generalize ((cb+dl:Nat):Int)=c2 at*;generalize hlz:((D.aI+dl:Nat):Int)=lz at*;refine callsD_of_wpS Tryz.func72 rfl fun c₀ cs hu=>?_
 refine wpS_of_wp ?_;change Code.wp _ _ _ {tmps:=#[R b0 0,R b1 0,undef,undef,undef,undef,undef,undef,undef,undef,undef,undef,undef,undef,undef,undef],defers:=[]} w;have YY:=zH hu;clear hu;generalize hQ:(fun (e:Exit) (a':Act) (E:World)=>bodyPostS _ _ _ _ _ e a' _ E)=Q;have HQ:=zH hQ;clear hQ;go_wp2_with fail;refine wp_region_still_tail 14 (by kernel_rfl) (by kernel_rfl) ?_;simp only[jS,jT,jU,jV]
 repeat still_step
 still_call HC.out
 repeat still_step
 refine wpStill_nil ?_;change wpList _ _ _ _ _ w.drew;have y23:w.drew.cell? (J A.H 23)=zt (D.aI:Int):=e23;have z23:w.drew.frozen? (J A.H 23)=false:=HR.out.iC 23;have HG:=zH (Grow.drew A.L w);generalize w.drew=wd at*;go_wp2_with fail;rw[<-HQ.out];have hu:=YY.out;have hr:=zA HL.out.1 (HG.out.trans HL.out.2)
 cases c₀
 simp_all[bodyPostS,results,Tryz.results72]
end Go.Proofs.YthicolbbmjfkfaaGreat.Em
